/- A law holds for every input; no condition. -/
import Derived.Test.YtonhfccmeammbaaGreatDoorUTJ
import Derived.Test.YtonhfccmeammbaaGreatDoorUW
import Derived.Test.YtonhfccmeammbaaGreatDoorUc
import Derived.Test.YtonhfccmeammbaaGreatDoorCards
import Derived.Test.YtonhfccmeammbaaGreatDoorTie
import Derived.Lay
import Derived.LaidMore
import Derived.ProofKit
import Derived.OpenShut
import Derived.ChangeMaps5
import Derived.Stop.Joined
import Derived.Deep.DeepHandedRow
set_option linter.all false
namespace Go.Proofs.YtonhfccmeammbaaGreatDoor
open Go.Ab Go.ChangeShapes Go.WideShapes Go.ChangeAt Go.RowKit
set_option maxRecDepth 100000
set_option maxHeartbeats 20000000
theorem zaf (os:Os):laidMetH Tryz.prog Rows.globalBooleanRow.laid ((World.laidAll Tryz.prog os Rows.globalBooleanRow.laid).forCall (fun _ _=>0) ⟨#[],#[.slice none 0 0,.slice none 0 0],[]⟩).memory:=by
 rw[MakeChecks.laidMetH_plain _ _ _ (by kernel_rfl)]
 exact laidMet_laidAll _ (by kernel_rfl) (by kernel_rfl)
theorem z8s (os:Os) {H:Type} (enc:TypeId × Value→H):DataW.whole enc Tryz.prog ((World.laidAll Tryz.prog os Rows.globalBooleanRow.laid).forCall (fun _ _=>0) ⟨#[],#[.slice none 0 0,.slice none 0 0],[]⟩).memory Tryz.f7.params.toList Rows.globalBooleanSpec.vars false #[.slice none 0 0,.slice none 0 0].toList 8=some ([.nil,.nil],[],[]):=by kernel_rfl
theorem z8h (os:Os) (started:os.Started) (H:Type) (enc:TypeId × Value→H) (F:Stop.Interp) :
 ReturnsInHanded {} Tryz.checked os 7 .any ((OpenSpec.ofChange Rows.globalBooleanSpec).preRow enc Tryz.prog Tryz.f7 Rows.globalBooleanRow.domain false Rows.globalBooleanRow.laid) (((OpenSpec.ofChange Rows.globalBooleanSpec).at F).post enc Tryz.prog Tryz.f7 false true false false):=by
 have hx:=z8s os enc
 refine returnsInHanded_of_row (C:=Tryz.checked) (s:=OpenSpec.ofChange Rows.globalBooleanSpec) (by kernel_rfl) started (by kernel_rfl) Tryz.func7
  (witness_row_at (enc:=enc) (C:=Tryz.checked) false (World.laidAll Tryz.prog os Rows.globalBooleanRow.laid) #[.slice none 0 0,.slice none 0 0] (World.laidAll_os _ _ _) (by kernel_rfl) (by kernel_rfl) (by kernel_rfl)
    (OpenSpec.preRow_of_cond 8 hx (by kernel_rfl) (fun k hk=>by cases hk) (by kernel_rfl) (zaf os))) ?_
 intro W base args ds gs before hval0 hW h_1 h_2 h_3 hLaid h_4 h_5
 have hTab:=zmd hLaid
 obtain⟨τ,hO0,hO1,hD0,hD1⟩:=zqs hTab
 have hval:∀ (j:Nat) t v,Tryz.f7.params[j]? =some t→args[j]? =some v→Value.okWide Tryz.prog W .any base t v:=hval0
 have hW2:DataW.Whole enc Tryz.prog Tryz.f7.params.toList Rows.globalBooleanSpec.vars false W args.toList ds gs before:=hW
 obtain⟨p,q,hA0,hV,rfl,hfz,hnd⟩:=hW
 have hA:DataW.TrodAll enc Tryz.prog W 0 (fun _=>true) true Tryz.f7.params.toList args.toList ds p:=hA0
 rw[Tryz.params7] at hA hval
 obtain⟨v0,vs0,d0,ds0,p0,q0,e0,rfl,rfl,h0,r0⟩:=trodAll_cons hA
 obtain⟨v1,vs1,d1,ds1,p1,q1,rfl,rfl,rfl,h1,r1⟩:=trodAll_cons r0
 obtain⟨rfl,rfl,rfl⟩:=trodAll_nil r1
 obtain rfl:args=#[v0,v1]:=by cases args;simp_all
 obtain⟨a0,f0,x0⟩:=zb6 hTab.sep (hval 0 _ v0 rfl rfl) h0
 obtain⟨a1,f1,x1⟩:=zb6 hTab.sep (hval 1 _ v1 rfl rfl) h1
 have key:Calls Tryz.prog 7 #[v0,v1] W fun e W2=>∃ v,e=.returned v∧Rows.globalBooleanSpec.post enc Tryz.prog Tryz.f7 false true false false W #[v0,v1] v W2:=by
  refine(zg1 (P:=Tryz.prog) (g0:=0) (g1:=1) (by decide) (vs:=[v0,v1]) (zvb τ a0 a1 f0 f1) W hO0 hO1 hD0 hD1 rfl ?_).mono ?_
  · intro β j pp v hj hv
    match j,hj,hv with
    | 0,hj,hv=>simp at hj hv;subst hj;subst hv;exact .d _ _ x0
    | 1,hj,hv=>simp at hj hv;subst hj;subst hv;exact .d _ _ x1
  · exact zD57
 exact key
theorem globalBoolean_said:Rows.GlobalBooleanSaid :=
 OpenClaim.holds_of_cond 7 Tryz.f7 rfl rfl rfl rfl rfl rfl rfl ⟨rfl,rfl,rfl,rfl,rfl⟩ rfl rfl rfl rfl rfl (by kernel_rfl) Tryz.func7 (by kernel_rfl)
  (of_decide_eq_true (by kernel_rfl)) (by unfold Func.isWrapper;first|(rw[zAy (by decide +kernel)];kernel_rfl)|(rw[zAx (by decide +kernel)];exact⟨rfl,rfl⟩))
  (fun os started H enc _ F=>by rw[OpenClaim.pre_eq_preRow];exact z8h os started H enc F)
theorem z8m (f:FuncId) (fn:Func) (hf:Tryz.pinned.checked.prog.funcNamed "corpora/corporalaw26.GlobalBoolean" =some f) (hfn:Tryz.pinned.checked.prog.funcs[f]? =some fn) :
 false=Tryz.pinned.checked.prog.looks []∧∀ (j:Nat) t,fn.params[j]? =some t→Tryz.pinned.checked.prog.wantsStandIn t=false:=by
 obtain rfl:f=7:=Option.some.inj ((show Tryz.prog.funcNamed "corpora/corporalaw26.GlobalBoolean" =some 7 by kernel_rfl).symm.trans hf) |>.symm
 obtain rfl:fn=Tryz.f7:=(Option.some.inj (Tryz.func7.symm.trans hfn)).symm
 refine⟨by kernel_rfl,fun j t ht=>?_⟩
 rw[Tryz.params7] at ht
 exact zD35
theorem globalBoolean_card:Rows.GlobalBooleanCardSaid :=
 Claim7.holds_tied_plain_at .later [] _ _ _ _ globalBoolean_said (fun _ h=>by cases h) (by kernel_rfl) (fun _ h=>by cases h) globalBoolean_row_tie rfl ⟨rfl,rfl⟩ (by kernel_rfl) rfl z8m (by kernel_rfl)
#print axioms globalBoolean_card
end Go.Proofs.YtonhfccmeammbaaGreatDoor
