/- A part of the proof: A32 to A37. -/
import Derived.Test.YtmcggompdmngmaaGreatDoorWc
import Derived.Test.YtmcggompdmngmaaGreatDoorW5
import Derived.Test.YtmcggompdmngmaaGreatDoorW1
import Derived.Test.YtmcggompdmngmaaGreatDoorWr
import Derived.Test.YtmcggompdmngmaaGreatDoorWv
import Derived.Test.YtmcggompdmngmaaGreatDoorWs
import Derived.Test.YtmcggompdmngmaaGreatDoorWp
import Derived.Test.YtmcggompdmngmaaGreatDoorWq
import Derived.Test.YtmcggompdmngmaaGreatDoorWy
set_option linter.all false
namespace Go.Proofs.YtmcggompdmngmaaGreatDoor
open Go.Ab Go.Ax Go.Rx
set_option maxHeartbeats 20000000
set_option maxRecDepth 100000
def y42 (x:Int):List Int→List Int
 | []=>[x]
 | y::l=>if x≤y then x::y::l else y::y42 x l
def y0x:List Int→List Int
 | []=>[]
 | x::l=>y42 x (y0x l)
theorem zd4 (x:Int):∀ l:List Int,(y42 x l).Perm (x::l)
 | []=>List.Perm.refl _
 | y::l=>by
  rw[y42]
  split
  · exact List.Perm.refl _
  · exact((zd4 x l).cons y).trans (List.Perm.swap x y l)
theorem zi6:∀ l:List Int,(y0x l).Perm l
 | []=>List.Perm.refl _
 | x::l=>(zd4 x (y0x l)).trans ((zi6 l).cons x)
theorem zmv (x:Int):∀ l:List Int,l.Pairwise (· ≤·)→(y42 x l).Pairwise (· ≤·)
 | [],_=>by simp[y42]
 | y::l,h=>by
  rw[y42]
  rw[List.pairwise_cons] at h
  split
  · rename_i hx
    refine List.pairwise_cons.2 ⟨fun z hz=>?_,List.pairwise_cons.2 h⟩
    rcases zAc.1 hz with rfl|hz
    · exact hx
    · have:=h.1 z hz;omega
  · rename_i hx
    refine List.pairwise_cons.2 ⟨fun z hz=>?_,zmv x l h.2⟩
    rcases zAc.1 ((zd4 x l).mem_iff.1 hz) with rfl|hz
    · omega
    · exact h.1 z hz
theorem znd:∀ l:List Int,(y0x l).Pairwise (· ≤·)
 | []=>by simp[y0x]
 | x::l=>zmv x _ (znd l)
theorem zuz (l:List Int):Go.Ax.srt l=y0x l:=y0f (zi6 l).symm (znd l)
def y2d (L:List (List Rg)):List Int:=cpt (y0x (z4w L))
theorem y60 (L:List (List Rg)):zav L=y2d L:=by rw[zav,zuz];rfl
theorem y3g (N:Nat) (lv:List (List Rg)):z7e N lv=(List.range ((y2d (z73 N 0 lv)).length-1)).filterMap (cE N lv (y2d (z73 N 0 lv))):=by
 rw[z7e,zae,y60]
abbrev pA:Au:=⟨[false,true,true,false],[[(0,96,1),(97,97,2),(98,1114111,1)],[(0,1114111,1)],[(0,97,1),(98,98,3),(99,1114111,1)],[(0,96,1),(97,97,2),(98,1114111,1)]]⟩
theorem zsm {F:List Bool} {A:List (List Arc)} (h:∀ q:Nat,q<F.length→z5y F A q):z6e F A=F.map fun _=>true:=by
 rw[z6e]
 refine List.ext_getElem (by simp) fun i h1 h2=>?_
 simp only[List.getElem_map,List.getElem_range]
 simp at h1
 have h2:=h i h1
 rw[← List.getElem_range (n:=F.length) (j:=i) (by simpa using h1)] at h2
 exact @decide_eq_true _ (_) h2
theorem zu8:∀ {l:List Arc} {p:Option Arc},okA p l→(l.map fun x=>x.1).Pairwise (· <·)
 | [],_,_=>List.Pairwise.nil
 | x::l,p,h=>by
  rw[List.map_cons,List.pairwise_cons]
  refine⟨fun z hz=>?_,zu8 h.2.2.2⟩
  obtain⟨e,he,rfl⟩:=List.mem_map.1 hz
  have:=zty h.2.2.2 e he
  have:=h.1
  omega
theorem y0v {l:List Arc} {p:Option Arc} (h:okA p l) (hr:∀ x∈l,0≤x.1∧x.1≤1114111):l.length≤1114112:=by
 have:=ztm (B:=1114111) (zu8 h) fun z hz=>by
  obtain⟨e,he,rfl⟩:=List.mem_map.1 hz
  have:=hr e he
  omega
 rw[zA4] at this
 exact this
theorem zzf {B:Nat}:∀ {A:List (List Arc)},(∀ l∈A,l.length≤B)→(A.map List.length).sum≤A.length*B
 | [],_=>by simp
 | l::A,h=>by
  rw[List.map_cons,List.sum_cons,zAk,Nat.succ_mul]
  have:=h l (by simp)
  have:=zzf (A:=A) fun m hm=>h m (by simp[hm])
  omega
theorem zh4 {a:Au} (h:vAu a=0):y4p a.F a.A∧∀ l∈a.A,l.length≤1114112:=by
 have hv:=ztf h
 have hl:∀ l∈a.A,l.length≤1114112:=fun l hl=>y0v (hv.arc l hl).1 fun x hx=>by have:=(hv.arc l hl).2 x hx;omega
 have hs:=zzf hl
 have h1:=hv.few
 have h2:=hv.len
 have h3:a.A.length*1114112≤256*1114112:=Nat.mul_le_mul_right _ (by omega)
 exact⟨⟨hv.len,fun l h=>⟨(hv.arc l h).1,by have:=hl l h;omega,(hv.arc l h).2⟩,by omega,hv.pos,by omega⟩,hl⟩
theorem y3f {a:Au} (h:vAu a=0):y8f a:=by
 have h1:=(zh4 h).1
 have h2:=h1.len
 have h3:=h1.few
 exact⟨by omega,by omega,fun l hl=>by have:=(zh4 h).2 l hl;omega⟩
attribute [local irreducible] Run Ops Op1 z14 Val Tr z0d z0w NF Rel z1z z27 z5x
theorem y61 {a:Au} (h:vAu a=0):AuW a:=by
 have hv:=ztf h
 exact⟨hv.len,hv.arc,hv.pos⟩
theorem zr5:∀ {n:Int} {l:List Arc} {p:Option Arc},okA p l→(∀ x∈l,0≤x.1∧x.1≤x.2.1∧x.2.1≤1114111∧0≤x.2.2∧x.2.2<n)→zk2 n p l=0
 | n,[],p,_,_=>by cases p <;> rfl
 | n,x::l,p,h,hx=>by
  have h1:=hx x (by simp)
  have hb:¬ zzm n x=true:=by
   simp only[zzm,zAu,zA3,not_or];omega
  have ih:=zr5 h.2.2.2 fun y hy=>hx y (by simp[hy])
  rw[zdk,zAy hb]
  cases p with
  | none=>exact ih
  | some y =>
   have h2:=h.2.2.1 y rfl
   have hb2:¬ zxc y x=true:=by
    simp only[zxc,zAu,zA7,zA3,not_or]
    refine⟨by omega,fun g=>h2.2 ⟨by omega,g.2.symm⟩⟩
   simp only
   rw[zAy hb2];exact ih
theorem zmf {n:Int}:∀ {A:List (List Arc)},(∀ l∈A,zk2 n none l=0)→zee n A=0
 | [],_=>rfl
 | l::A,h=>by
  rw[zee,zAy (by rw[h l (by simp)];simp)]
  exact zmf fun m hm=>h m (by simp[hm])
theorem zzr {a:Au} (h:AuW a) (hn:a.F.length≤256):vAu a=0:=by
 have:=h.pos
 have:=h.len
 rw[vAu,zAy (by omega),zAy (by omega)]
 exact zmf fun l hl=>zr5 (h.arc l hl).1 (h.arc l hl).2
end Go.Proofs.YtmcggompdmngmaaGreatDoor
