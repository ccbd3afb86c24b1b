/- A part of the proof: A32 to A36. -/
import Derived.Test.YtmcggompdmngmaaGreatDoorYc
import Derived.Test.YtmcggompdmngmaaGreatDoorY5
import Derived.Test.YtmcggompdmngmaaGreatDoorY1
import Derived.Test.YtmcggompdmngmaaGreatDoorYr
import Derived.Test.YtmcggompdmngmaaGreatDoorYv
import Derived.Test.YtmcggompdmngmaaGreatDoorYs
import Derived.Test.YtmcggompdmngmaaGreatDoorYp
import Derived.Test.YtmcggompdmngmaaGreatDoorYq
import Derived.Test.YtmcggompdmngmaaGreatDoorYy
set_option linter.all false
namespace Go.Proofs.YtmcggompdmngmaaGreatDoor
open Go.Ab Go.Ax Go.Rx
set_option maxHeartbeats 20000000
set_option maxRecDepth 100000
def y51 (x:Int):List Int→List Int
 | []=>[x]
 | y::l=>if x≤y then x::y::l else y::y51 x l
def y4p:List Int→List Int
 | []=>[]
 | x::l=>y51 x (y4p l)
theorem zcs (x:Int):∀ l:List Int,(y51 x l).Perm (x::l)
 | []=>List.Perm.refl _
 | y::l=>by
  rw[y51]
  split
  · exact List.Perm.refl _
  · exact((zcs x l).cons y).trans (List.Perm.swap x y l)
theorem zis:∀ l:List Int,(y4p l).Perm l
 | []=>List.Perm.refl _
 | x::l=>(zcs x (y4p l)).trans ((zis l).cons x)
theorem zmk (x:Int):∀ l:List Int,l.Pairwise (· ≤·)→(y51 x l).Pairwise (· ≤·)
 | [],_=>by simp[y51]
 | y::l,h=>by
  rw[y51]
  rw[List.pairwise_cons] at h
  split
  · rename_i hx
    refine List.pairwise_cons.2 ⟨fun z hz=>?_,List.pairwise_cons.2 h⟩
    rcases zAc.1 hz with rfl|hz
    · exact hx
    · have:=h.1 z hz;omega
  · rename_i hx
    refine List.pairwise_cons.2 ⟨fun z hz=>?_,zmk x l h.2⟩
    rcases zAc.1 ((zcs x l).mem_iff.1 hz) with rfl|hz
    · omega
    · exact h.1 z hz
theorem zmt:∀ l:List Int,(y4p l).Pairwise (· ≤·)
 | []=>by simp[y4p]
 | x::l=>zmk x _ (zmt l)
theorem zvt (l:List Int):Go.Ax.srt l=y4p l:=y1b (zis l).symm (zmt l)
def y3f (L:List (List Rg)):List Int:=cpt (y4p (z4q L))
theorem y9m (L:List (List Rg)):zal L=y3f L:=by rw[zal,zvt];rfl
theorem y3h (N:Nat) (lv:List (List Rg)):z5y N lv=(List.range ((y3f (z6u N 0 lv)).length-1)).filterMap (cE N lv (y3f (z6u N 0 lv))):=by
 rw[z5y,zag,y9m]
abbrev pA:Au:=⟨[false,true,true,false],[[(0,96,1),(97,97,2),(98,1114111,1)],[(0,1114111,1)],[(0,97,1),(98,98,3),(99,1114111,1)],[(0,96,1),(97,97,2),(98,1114111,1)]]⟩
theorem zt6 {F:List Bool} {A:List (List Arc)} (h:∀ q:Nat,q<F.length→z5m F A q):z6a F A=F.map fun _=>true:=by
 rw[z6a]
 refine List.ext_getElem (by simp) fun i h1 h2=>?_
 simp only[List.getElem_map,List.getElem_range]
 simp at h1
 have h2:=h i h1
 rw[← List.getElem_range (n:=F.length) (j:=i) (by simpa using h1)] at h2
 exact @decide_eq_true _ (_) h2
theorem zrm:∀ {l:List Arc} {p:Option Arc},okA p l→(l.map fun x=>x.1).Pairwise (· <·)
 | [],_,_=>List.Pairwise.nil
 | x::l,p,h=>by
  rw[List.map_cons,List.pairwise_cons]
  refine⟨fun z hz=>?_,zrm h.2.2.2⟩
  obtain⟨e,he,rfl⟩:=List.mem_map.1 hz
  have:=y0v h.2.2.2 e he
  have:=h.1
  omega
theorem y4v {l:List Arc} {p:Option Arc} (h:okA p l) (hr:∀ x∈l,0≤x.1∧x.1≤1114111):l.length≤1114112:=by
 have:=zuh (B:=1114111) (zrm h) fun z hz=>by
  obtain⟨e,he,rfl⟩:=List.mem_map.1 hz
  have:=hr e he
  omega
 rw[zA4] at this
 exact this
theorem y0l {B:Nat}:∀ {A:List (List Arc)},(∀ l∈A,l.length≤B)→(A.map List.length).sum≤A.length*B
 | [],_=>by simp
 | l::A,h=>by
  rw[List.map_cons,List.sum_cons,zAk,Nat.succ_mul]
  have:=h l (by simp)
  have:=y0l (A:=A) fun m hm=>h m (by simp[hm])
  omega
theorem zul {a:Au} (h:vAu a=0):y67 a.F a.A∧∀ l∈a.A,l.length≤1114112:=by
 have hv:=zue h
 have hl:∀ l∈a.A,l.length≤1114112:=fun l hl=>y4v (hv.arc l hl).1 fun x hx=>by have:=(hv.arc l hl).2 x hx;omega
 have hs:=y0l hl
 have h1:=hv.few
 have h2:=hv.len
 have h3:a.A.length*1114112≤256*1114112:=Nat.mul_le_mul_right _ (by omega)
 exact⟨⟨hv.len,fun l h=>⟨(hv.arc l h).1,by have:=hl l h;omega,(hv.arc l h).2⟩,by omega,hv.pos,by omega⟩,hl⟩
attribute [local irreducible] Run Ops Op1 z0u Val Tr z09 z0q NF Rel z1v z1u z5p
theorem y88 {a:Au} (h:vAu a=0):AuW a:=by
 have hv:=zue h
 exact⟨hv.len,hv.arc,hv.pos⟩
end Go.Proofs.YtmcggompdmngmaaGreatDoor
