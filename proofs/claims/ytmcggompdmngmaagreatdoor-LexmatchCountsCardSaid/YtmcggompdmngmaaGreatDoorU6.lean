/- A part of the proof: A32 to A36. -/
import Derived.Test.YtmcggompdmngmaaGreatDoorUc
import Derived.Test.YtmcggompdmngmaaGreatDoorU5
import Derived.Test.YtmcggompdmngmaaGreatDoorU1
import Derived.Test.YtmcggompdmngmaaGreatDoorUs
import Derived.Test.YtmcggompdmngmaaGreatDoorUr
import Derived.Test.YtmcggompdmngmaaGreatDoorUp
import Derived.Test.YtmcggompdmngmaaGreatDoorUq
import Derived.Test.YtmcggompdmngmaaGreatDoorUz
import Derived.Test.YtmcggompdmngmaaGreatDoorUy
set_option linter.all false
namespace Go.Proofs.YtmcggompdmngmaaGreatDoor
open Go.Ab Go.Ax Go.Rx
set_option maxHeartbeats 20000000
set_option maxRecDepth 100000
def y1f (x:Int):List Int→List Int
 | []=>[x]
 | y::l=>if x≤y then x::y::l else y::y1f x l
def y3y:List Int→List Int
 | []=>[]
 | x::l=>y1f x (y3y l)
theorem zdd (x:Int):∀ l:List Int,(y1f x l).Perm (x::l)
 | []=>List.Perm.refl _
 | y::l=>by
  rw[y1f]
  split
  · exact List.Perm.refl _
  · exact((zdd x l).cons y).trans (List.Perm.swap x y l)
theorem zje:∀ l:List Int,(y3y l).Perm l
 | []=>List.Perm.refl _
 | x::l=>(zdd x (y3y l)).trans ((zje l).cons x)
theorem zmx (x:Int):∀ l:List Int,l.Pairwise (· ≤·)→(y1f x l).Pairwise (· ≤·)
 | [],_=>by simp[y1f]
 | y::l,h=>by
  rw[y1f]
  rw[List.pairwise_cons] at h
  split
  · rename_i hx
    refine List.pairwise_cons.2 ⟨fun z hz=>?_,List.pairwise_cons.2 h⟩
    rcases zAc.1 hz with rfl|hz
    · exact hx
    · have:=h.1 z hz;omega
  · rename_i hx
    refine List.pairwise_cons.2 ⟨fun z hz=>?_,zmx x l h.2⟩
    rcases zAc.1 ((zdd x l).mem_iff.1 hz) with rfl|hz
    · omega
    · exact h.1 z hz
theorem zmz:∀ l:List Int,(y3y l).Pairwise (· ≤·)
 | []=>by simp[y3y]
 | x::l=>zmx x _ (zmz l)
theorem zww (l:List Int):Go.Ax.srt l=y3y l:=y0c (zje l).symm (zmz l)
def y1u (L:List (List Rg)):List Int:=cpt (y3y (z7r L))
theorem y50 (L:List (List Rg)):zc0 L=y1u L:=by rw[zc0,zww];rfl
theorem y16 (N:Nat) (lv:List (List Rg)):zei N lv=(List.range ((y1u (z9c N 0 lv)).length-1)).filterMap (cE N lv (y1u (z9c N 0 lv))):=by
 rw[zei,zif,y50]
abbrev pA:Au:=⟨[false,true,true,false],[[(0,96,1),(97,97,2),(98,1114111,1)],[(0,1114111,1)],[(0,97,1),(98,98,3),(99,1114111,1)],[(0,96,1),(97,97,2),(98,1114111,1)]]⟩
theorem zq6 {F:List Bool} {A:List (List Arc)} (h:∀ q:Nat,q<F.length→z5c F A q):z5h F A=F.map fun _=>true:=by
 rw[z5h]
 refine List.ext_getElem (by simp) fun i h1 h2=>?_
 simp only[List.getElem_map,List.getElem_range]
 simp at h1
 have h2:=h i h1
 rw[← List.getElem_range (n:=F.length) (j:=i) (by simpa using h1)] at h2
 exact @decide_eq_true _ (_) h2
theorem ztu:∀ {l:List Arc} {p:Option Arc},okA p l→(l.map fun x=>x.1).Pairwise (· <·)
 | [],_,_=>List.Pairwise.nil
 | x::l,p,h=>by
  rw[List.map_cons,List.pairwise_cons]
  refine⟨fun z hz=>?_,ztu h.2.2.2⟩
  obtain⟨e,he,rfl⟩:=List.mem_map.1 hz
  have:=zrs h.2.2.2 e he
  have:=h.1
  omega
theorem y2c {l:List Arc} {p:Option Arc} (h:okA p l) (hr:∀ x∈l,0≤x.1∧x.1≤1114111):l.length≤1114112:=by
 have:=zur (B:=1114111) (ztu h) fun z hz=>by
  obtain⟨e,he,rfl⟩:=List.mem_map.1 hz
  have:=hr e he
  omega
 rw[zA4] at this
 exact this
theorem zz8 {B:Nat}:∀ {A:List (List Arc)},(∀ l∈A,l.length≤B)→(A.map List.length).sum≤A.length*B
 | [],_=>by simp
 | l::A,h=>by
  rw[List.map_cons,List.sum_cons,zAk,Nat.succ_mul]
  have:=h l (by simp)
  have:=zz8 (A:=A) fun m hm=>h m (by simp[hm])
  omega
theorem zd3 {a:Au} (h:vAu a=0):y4q a.F a.A∧∀ l∈a.A,l.length≤1114112:=by
 have hv:=zgb h
 have hl:∀ l∈a.A,l.length≤1114112:=fun l hl=>y2c (hv.arc l hl).1 fun x hx=>by have:=(hv.arc l hl).2 x hx;omega
 have hs:=zz8 hl
 have h1:=hv.few
 have h2:=hv.len
 have h3:a.A.length*1114112≤256*1114112:=Nat.mul_le_mul_right _ (by omega)
 exact⟨⟨hv.len,fun l h=>⟨(hv.arc l h).1,by have:=hl l h;omega,(hv.arc l h).2⟩,by omega,hv.pos,by omega⟩,hl⟩
attribute [local irreducible] Run Ops Op1 z15 Val Tr z0d z0y NF Rel z2a z29 z5x
open Go.Ab Go.Ax Go.Rx Go.ChangeShapes Go.WideShapes Go.ChangeAt Go.RowKit
theorem y53 {ds:List D} (h:ShL Tryz.prog [21,21,3] ds):∃ a:Arc,ds=z8m a:=by
 obtain⟨a,_,rfl,h1,b,_,rfl,h2,c,_,rfl,h3,rfl⟩:=h
 obtain⟨x,rfl,_⟩:=h1.inv_int (k:=.i32) (by kernel_rfl)
 obtain⟨y,rfl,_⟩:=h2.inv_int (k:=.i32) (by kernel_rfl)
 obtain⟨z,rfl,_⟩:=h3.inv_int (k:=.i64) (by kernel_rfl)
 exact⟨(x,y,z),rfl⟩
theorem y30 {ds:List D} (h:Sh Tryz.prog 96 ds):∃ l:List Arc,ds=z6w l∧l.length≤9223372036854775807:=by
 obtain⟨l,rfl,hl,_⟩:=h.inv_list (e:=98) z8m (fun _=>True) (by kernel_rfl) fun x hx=>by
  obtain⟨a,rfl⟩:=y53 (hx.inv_fields (ts:=[21,21,3]) (by kernel_rfl))
  exact⟨a,rfl,trivial⟩
 exact⟨l,rfl,hl⟩
theorem y6z {ds:List D} (h:Sh Tryz.prog 23 ds):∃ l:List Bool,ds=[zeb l]∧l.length≤9223372036854775807:=by
 obtain⟨l,rfl,hl,_⟩:=h.inv_list (e:=4) boc (fun _=>True) (by kernel_rfl) fun x hx=>by
  cases hx with
  | bool _ b _=>exact⟨b,rfl,trivial⟩
  | int t k z hu _ _=>exact absurd (hu.symm.trans (show Tryz.prog.underlying 4=some .bool by kernel_rfl)) (by simp)
  | str t z hu _=>exact absurd (hu.symm.trans (show Tryz.prog.underlying 4=some .bool by kernel_rfl)) (by simp)
  | slice t _ _ hu _ _=>exact absurd (hu.symm.trans (show Tryz.prog.underlying 4=some .bool by kernel_rfl)) (by simp)
  | struct t _ _ hu _ _=>exact absurd (hu.symm.trans (show Tryz.prog.underlying 4=some .bool by kernel_rfl)) (by simp)
 exact⟨l,rfl,hl⟩
theorem y9q {ds:List D} (h:ShL Tryz.prog [23,24] ds):∃ a:Au,ds=auc a∧zp7 a:=by
 obtain⟨a,_,rfl,h1,b,_,rfl,h2,rfl⟩:=h
 obtain⟨F,rfl,hF⟩:=y6z h1
 obtain⟨A,rfl,hA,hl⟩:=h2.inv_list (e:=96) z6w (fun l=>l.length≤9223372036854775807) (by kernel_rfl) fun x hx=>y30 hx
 exact⟨⟨F,A⟩,rfl,hF,hA,hl⟩
theorem y7v {H:Type} {enc:TypeId × Value→H} {W:World} {v:Value} {d:DataW H} {p:List MemPlace} {r:Reach} {b0:Nat} (hsep:∀ g o v,zcn g→W.cell? ⟨g,o,none⟩=some v→∃ z,v=.int .u8 z) (hval:Value.okWide Tryz.prog W r b0 26 v)
 (h:DataW.Trod enc Tryz.prog W 0 (fun _=>true) true 26 v d p):∃ a:Au,zp7 a∧DR W zcn (auD a) v:=by
 obtain⟨ds,h1,h2,_⟩:=zhp hsep (G:=[26,23,24,4,96,98,21,3]) (by kernel_rfl) (by kernel_rfl) (by decide) hval h
 obtain⟨fs,u25,_⟩:=z7c (show fieldTypes Tryz.prog 26=some [23,24] by kernel_rfl)
 obtain⟨a,rfl,ha⟩:=y9q (h1.inv_fields (ts:=[23,24]) (by kernel_rfl))
 exact⟨a,ha,h2 ⟨fs,u25⟩⟩
end Go.Proofs.YtmcggompdmngmaaGreatDoor
namespace Go.Proofs.YtmcggompdmngmaaGreatDoor
open Go.Ab Go.Ax Go.Rx
set_option maxHeartbeats 20000000
set_option maxRecDepth 100000
theorem zus {a:Au} (h:vAu a=0):AuW a:=by
 have hv:=zgb h
 exact⟨hv.len,hv.arc,hv.pos⟩
end Go.Proofs.YtmcggompdmngmaaGreatDoor
