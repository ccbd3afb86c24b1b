/- A law holds for every input; no condition. -/
import Derived.Test.YtonhfccmeammbaaGreatDoorVTM
import Derived.Test.YtonhfccmeammbaaGreatDoorV3
import Derived.Test.YtonhfccmeammbaaGreatDoorCards
import Derived.Test.YtonhfccmeammbaaGreatDoorTie
import Derived.Lay
import Derived.ChangeMaps5
import Derived.Stop.Joined
import Derived.Deep.DeepHandedRow
set_option linter.all false
open Go.Proofs.Tryz
namespace Go.Proofs.YtonhfccmeammbaaGreatDoor
open Go.Ab Go.ChangeShapes Go.WideShapes Go.ChangeAt Go.RowKit
set_option maxRecDepth 100000
set_option maxHeartbeats 20000000
theorem ze8(os:Os):laidMetH prog Rows.globalHoldsRow.laid ((World.laidAll prog os Rows.globalHoldsRow.laid).forCall (fun _ _=>0) ⟨#[],#[.slice none 0 0,.slice none 0 0],[]⟩).memory:=by
 rw[MakeChecks.laidMetH_plain _ _ _ (by kernel_rfl)]
 exact laidMet_laidAll _ (by kernel_rfl) (by kernel_rfl)
theorem zca(os:Os){H:Type}(enc:TypeId × Value→H):DataW.whole enc prog ((World.laidAll prog os Rows.globalHoldsRow.laid).forCall (fun _ _=>0) ⟨#[],#[.slice none 0 0,.slice none 0 0],[]⟩).memory f3.params.toList Rows.globalHoldsSpec.vars false #[.slice none 0 0,.slice none 0 0].toList 8=some ([.nil,.nil],[],[]):=by kernel_rfl
theorem zb8(os:Os)(started:os.Started)(H:Type)(enc:TypeId × Value→H)(F:Stop.Interp) :
 ReturnsInHanded {} Tryz.checked os 3 .any ((OpenSpec.ofChange Rows.globalHoldsSpec).preRow enc prog f3 Rows.globalHoldsRow.domain false Rows.globalHoldsRow.laid) (((OpenSpec.ofChange Rows.globalHoldsSpec).at F).post enc prog f3 false true false false):=by
 have hx:=zca os enc
 refine returnsInHanded_of_row (C:=Tryz.checked) (s:=OpenSpec.ofChange Rows.globalHoldsSpec) (by kernel_rfl) started (by kernel_rfl) func3
  (witness_row_at (enc:=enc) (C:=Tryz.checked) false (World.laidAll prog os Rows.globalHoldsRow.laid) #[.slice none 0 0,.slice none 0 0] (World.laidAll_os _ _ _) (by kernel_rfl) (by kernel_rfl) (by kernel_rfl)
    (OpenSpec.preRow_of_cond 8 hx (by kernel_rfl) (fun k hk=>by cases hk) (by kernel_rfl) (ze8 os))) ?_
 intro W base args ds gs before hval0 hW h_1 h_2 h_3 hLaid h_4 h_5
 have hTab:=zqy hLaid
 obtain⟨τ,hO0,hO1,hD0,hD1⟩:=zwx hTab
 have hval:∀(j:Nat) t v,f3.params[j]? =some t→args[j]? =some v→Value.okWide prog W .any base t v:=hval0
 have hW2:DataW.Whole enc prog f3.params.toList Rows.globalHoldsSpec.vars false W args.toList ds gs before:=hW
 obtain⟨p,q,hA0,hV,rfl,hfz,hnd⟩:=hW
 have hA:DataW.TrodAll enc prog W 0 (fun _=>true) true f3.params.toList args.toList ds p:=hA0
 rw[Tryz.params3]at hA hval
 obtain⟨v0,vs0,d0,ds0,p0,q0,e0,rfl,rfl,h0,r0⟩:=trodAll_cons hA
 obtain⟨v1,vs1,d1,ds1,p1,q1,rfl,rfl,rfl,h1,r1⟩:=trodAll_cons r0
 obtain⟨rfl,rfl,rfl⟩:=trodAll_nil r1
 obtain rfl:args=#[v0,v1]:=by cases args;simp_all
 obtain⟨a0,f0,x0⟩:=zda hTab.sep (hval 0 _ v0 rfl rfl) h0
 obtain⟨a1,f1,x1⟩:=zda hTab.sep (hval 1 _ v1 rfl rfl) h1
 have key:Calls prog 3 #[v0,v1] W fun e W2=>∃v,e=.returned v∧Rows.globalHoldsSpec.post enc prog f3 false true false false W #[v0,v1] v W2:=by
  refine(zj2 (P:=prog) (g0:=0) (g1:=1) (by decide) (vs:=[v0,v1]) (y21 τ a0 a1 f0 f1) W hO0 hO1 hD0 hD1 rfl ?_).mono ?_
  ·intro β j pp v hj hv
   match j,hj,hv with
   | 0,hj,hv=>simp at hj hv;subst hj;subst hv;exact .d _ _ x0
   | 1,hj,hv=>simp at hj hv;subst hj;subst hv;exact .d _ _ x1
  ·exact zD87
 exact key
theorem globalHolds_said:Rows.GlobalHoldsSaid :=
 OpenClaim.holds_of_cond 3 f3 rfl rfl rfl rfl rfl rfl rfl ⟨rfl,rfl,rfl,rfl,rfl⟩ rfl rfl rfl rfl rfl (by kernel_rfl) func3 (by kernel_rfl)
  (of_decide_eq_true (by kernel_rfl)) (by unfold Func.isWrapper;first|(rw[zAz (by decide +kernel)];kernel_rfl)|(rw[zAy (by decide +kernel)];exact⟨rfl,rfl⟩))
  (fun os started H enc _ F=>by rw[OpenClaim.pre_eq_preRow];exact zb8 os started H enc F)
theorem zc5(f:FuncId)(fn:Func)(hf:Tryz.pinned.checked.prog.funcNamed "corpora/corporalaw26.GlobalHolds" =some f)(hfn:Tryz.pinned.checked.prog.funcs[f]? =some fn) :
 false=Tryz.pinned.checked.prog.looks []∧∀(j:Nat) t,fn.params[j]? =some t→Tryz.pinned.checked.prog.wantsStandIn t=false:=by
 obtain rfl:f=3:=Option.some.inj ((show prog.funcNamed "corpora/corporalaw26.GlobalHolds" =some 3 by kernel_rfl).symm.trans hf) |>.symm
 obtain rfl:fn=f3:=(Option.some.inj (func3.symm.trans hfn)).symm
 refine⟨by kernel_rfl,fun j t ht=>?_⟩
 rw[Tryz.params3]at ht
 exact zD53
theorem globalHolds_card:Rows.GlobalHoldsCardSaid :=
 Claim7.holds_tied_plain_at .later [] _ _ _ _ globalHolds_said (fun _ h=>by cases h) (by kernel_rfl) (fun _ h=>by cases h) globalHolds_row_tie rfl ⟨rfl,rfl⟩ (by kernel_rfl) rfl zc5 (by kernel_rfl)
#print axioms globalHolds_card
end Go.Proofs.YtonhfccmeammbaaGreatDoor
