/- A part of the proof: A32 to A36. -/
import Derived.Test.YtmcggompdmngmaaGreatDoorVc
import Derived.Test.YtmcggompdmngmaaGreatDoorV5
import Derived.Test.YtmcggompdmngmaaGreatDoorV1
import Derived.Test.YtmcggompdmngmaaGreatDoorVr
import Derived.Test.YtmcggompdmngmaaGreatDoorVv
import Derived.Test.YtmcggompdmngmaaGreatDoorVs
import Derived.Test.YtmcggompdmngmaaGreatDoorVp
import Derived.Test.YtmcggompdmngmaaGreatDoorVq
import Derived.Test.YtmcggompdmngmaaGreatDoorVy
set_option linter.all false
namespace Go.Proofs.YtmcggompdmngmaaGreatDoor
open Go.Ab Go.Ax Go.Rx
set_option maxHeartbeats 20000000
set_option maxRecDepth 100000
def zzp (x:Int):List Int→List Int
 | []=>[x]
 | y::l=>if x≤y then x::y::l else y::zzp x l
def y2y:List Int→List Int
 | []=>[]
 | x::l=>zzp x (y2y l)
theorem zcq (x:Int):∀ l:List Int,(zzp x l).Perm (x::l)
 | []=>List.Perm.refl _
 | y::l=>by
  rw[zzp]
  split
  · exact List.Perm.refl _
  · exact((zcq x l).cons y).trans (List.Perm.swap x y l)
theorem zhc:∀ l:List Int,(y2y l).Perm l
 | []=>List.Perm.refl _
 | x::l=>(zcq x (y2y l)).trans ((zhc l).cons x)
theorem znb (x:Int):∀ l:List Int,l.Pairwise (· ≤·)→(zzp x l).Pairwise (· ≤·)
 | [],_=>by simp[zzp]
 | y::l,h=>by
  rw[zzp]
  rw[List.pairwise_cons] at h
  split
  · rename_i hx
    refine List.pairwise_cons.2 ⟨fun z hz=>?_,List.pairwise_cons.2 h⟩
    rcases zAc.1 hz with rfl|hz
    · exact hx
    · have:=h.1 z hz;omega
  · rename_i hx
    refine List.pairwise_cons.2 ⟨fun z hz=>?_,znb x l h.2⟩
    rcases zAc.1 ((zcq x l).mem_iff.1 hz) with rfl|hz
    · omega
    · exact h.1 z hz
theorem zm1:∀ l:List Int,(y2y l).Pairwise (· ≤·)
 | []=>by simp[y2y]
 | x::l=>znb x _ (zm1 l)
theorem zvm (l:List Int):Go.Ax.srt l=y2y l:=zz3 (zhc l).symm (zm1 l)
def y02 (L:List (List Rg)):List Int:=cpt (y2y (z74 L))
theorem y55 (L:List (List Rg)):zbf L=y02 L:=by rw[zbf,zvm];rfl
theorem y1v (N:Nat) (lv:List (List Rg)):zdr N lv=(List.range ((y02 (z8x N 0 lv)).length-1)).filterMap (cE N lv (y02 (z8x N 0 lv))):=by
 rw[zdr,zhk,y55]
abbrev pA:Au:=⟨[false,true,true,false],[[(0,96,1),(97,97,2),(98,1114111,1)],[(0,1114111,1)],[(0,97,1),(98,98,3),(99,1114111,1)],[(0,96,1),(97,97,2),(98,1114111,1)]]⟩
theorem zqm {F:List Bool} {A:List (List Arc)} (h:∀ q:Nat,q<F.length→z5p F A q):z5y F A=F.map fun _=>true:=by
 rw[z5y]
 refine List.ext_getElem (by simp) fun i h1 h2=>?_
 simp only[List.getElem_map,List.getElem_range]
 simp at h1
 have h2:=h i h1
 rw[← List.getElem_range (n:=F.length) (j:=i) (by simpa using h1)] at h2
 exact @decide_eq_true _ (_) h2
theorem zs1:∀ {l:List Arc} {p:Option Arc},okA p l→(l.map fun x=>x.1).Pairwise (· <·)
 | [],_,_=>List.Pairwise.nil
 | x::l,p,h=>by
  rw[List.map_cons,List.pairwise_cons]
  refine⟨fun z hz=>?_,zs1 h.2.2.2⟩
  obtain⟨e,he,rfl⟩:=List.mem_map.1 hz
  have:=zye h.2.2.2 e he
  have:=h.1
  omega
theorem y2i {l:List Arc} {p:Option Arc} (h:okA p l) (hr:∀ x∈l,0≤x.1∧x.1≤1114111):l.length≤1114112:=by
 have:=zs4 (B:=1114111) (zs1 h) fun z hz=>by
  obtain⟨e,he,rfl⟩:=List.mem_map.1 hz
  have:=hr e he
  omega
 rw[zA4] at this
 exact this
theorem zz7 {B:Nat}:∀ {A:List (List Arc)},(∀ l∈A,l.length≤B)→(A.map List.length).sum≤A.length*B
 | [],_=>by simp
 | l::A,h=>by
  rw[List.map_cons,List.sum_cons,zAk,Nat.succ_mul]
  have:=h l (by simp)
  have:=zz7 (A:=A) fun m hm=>h m (by simp[hm])
  omega
theorem zt3 {a:Au} (h:vAu a=0):y3f a.F a.A∧∀ l∈a.A,l.length≤1114112:=by
 have hv:=zql h
 have hl:∀ l∈a.A,l.length≤1114112:=fun l hl=>y2i (hv.arc l hl).1 fun x hx=>by have:=(hv.arc l hl).2 x hx;omega
 have hs:=zz7 hl
 have h1:=hv.few
 have h2:=hv.len
 have h3:a.A.length*1114112≤256*1114112:=Nat.mul_le_mul_right _ (by omega)
 exact⟨⟨hv.len,fun l h=>⟨(hv.arc l h).1,by have:=hl l h;omega,(hv.arc l h).2⟩,by omega,hv.pos,by omega⟩,hl⟩
attribute [local irreducible] Run Ops Op1 z13 Val Tr z0d z0w NF Rel z2a z2b z6r
theorem y4g {a:Au} (h:vAu a=0):AuW a:=by
 have hv:=zql h
 exact⟨hv.len,hv.arc,hv.pos⟩
end Go.Proofs.YtmcggompdmngmaaGreatDoor
