/- A law holds for every input; no condition. -/
import Derived.Test.YtonhfccmeammbaaGreatDoorVTM
import Derived.Test.YtonhfccmeammbaaGreatDoorV3
import Derived.Test.YtonhfccmeammbaaGreatDoorCards
import Derived.Test.YtonhfccmeammbaaGreatDoorTie
import Derived.Lay
import Derived.ChangeMaps5
import Derived.Stop.Joined
import Derived.Deep.DeepHandedRow
set_option linter.all false
open Go.Proofs.Tryz
namespace Go.Proofs.YtonhfccmeammbaaGreatDoor
open Go.Ab Go.ChangeShapes Go.WideShapes Go.ChangeAt Go.RowKit
set_option maxRecDepth 100000
set_option maxHeartbeats 20000000
theorem zbl(os:Os):laidMetH prog Rows.globalFiltersRow.laid ((World.laidAll prog os Rows.globalFiltersRow.laid).forCall (fun _ _=>0) ⟨#[],#[.slice none 0 0,.slice none 0 0],[]⟩).memory:=by
 rw[MakeChecks.laidMetH_plain _ _ _ (by kernel_rfl)]
 exact laidMet_laidAll _ (by kernel_rfl) (by kernel_rfl)
theorem za5(os:Os){H:Type}(enc:TypeId × Value→H):DataW.whole enc prog ((World.laidAll prog os Rows.globalFiltersRow.laid).forCall (fun _ _=>0) ⟨#[],#[.slice none 0 0,.slice none 0 0],[]⟩).memory f6.params.toList Rows.globalFiltersSpec.vars false #[.slice none 0 0,.slice none 0 0].toList 8=some ([.nil,.nil],[],[]):=by kernel_rfl
theorem z9q(os:Os)(started:os.Started)(H:Type)(enc:TypeId × Value→H)(F:Stop.Interp) :
 ReturnsInHanded {} Tryz.checked os 6 .any ((OpenSpec.ofChange Rows.globalFiltersSpec).preRow enc prog f6 Rows.globalFiltersRow.domain false Rows.globalFiltersRow.laid) (((OpenSpec.ofChange Rows.globalFiltersSpec).at F).post enc prog f6 false true false false):=by
 have hx:=za5 os enc
 refine returnsInHanded_of_row (C:=Tryz.checked) (s:=OpenSpec.ofChange Rows.globalFiltersSpec) (by kernel_rfl) started (by kernel_rfl) func6
  (witness_row_at (enc:=enc) (C:=Tryz.checked) false (World.laidAll prog os Rows.globalFiltersRow.laid) #[.slice none 0 0,.slice none 0 0] (World.laidAll_os _ _ _) (by kernel_rfl) (by kernel_rfl) (by kernel_rfl)
    (OpenSpec.preRow_of_cond 8 hx (by kernel_rfl) (fun k hk=>by cases hk) (by kernel_rfl) (zbl os))) ?_
 intro W base args ds gs before hval0 hW h_1 h_2 h_3 hLaid h_4 h_5
 have hTab:=zqy hLaid
 obtain⟨τ,hO0,hO1,hD0,hD1⟩:=zwx hTab
 have hval:∀(j:Nat) t v,f6.params[j]? =some t→args[j]? =some v→Value.okWide prog W .any base t v:=hval0
 have hW2:DataW.Whole enc prog f6.params.toList Rows.globalFiltersSpec.vars false W args.toList ds gs before:=hW
 obtain⟨p,q,hA0,hV,rfl,hfz,hnd⟩:=hW
 have hA:DataW.TrodAll enc prog W 0 (fun _=>true) true f6.params.toList args.toList ds p:=hA0
 rw[Tryz.params6]at hA hval
 obtain⟨v0,vs0,d0,ds0,p0,q0,e0,rfl,rfl,h0,r0⟩:=trodAll_cons hA
 obtain⟨v1,vs1,d1,ds1,p1,q1,rfl,rfl,rfl,h1,r1⟩:=trodAll_cons r0
 obtain⟨rfl,rfl,rfl⟩:=trodAll_nil r1
 obtain rfl:args=#[v0,v1]:=by cases args;simp_all
 obtain⟨a0,f0,x0⟩:=zda hTab.sep (hval 0 _ v0 rfl rfl) h0
 obtain⟨a1,f1,x1⟩:=zda hTab.sep (hval 1 _ v1 rfl rfl) h1
 have key:Calls prog 6 #[v0,v1] W fun e W2=>∃v,e=.returned v∧Rows.globalFiltersSpec.post enc prog f6 false true false false W #[v0,v1] v W2:=by
  refine(zj2 (P:=prog) (g0:=0) (g1:=1) (by decide) (vs:=[v0,v1]) (y1z τ a0 a1 f0 f1) W hO0 hO1 hD0 hD1 rfl ?_).mono ?_
  ·intro β j pp v hj hv
   match j,hj,hv with
   | 0,hj,hv=>simp at hj hv;subst hj;subst hv;exact .d _ _ x0
   | 1,hj,hv=>simp at hj hv;subst hj;subst hv;exact .d _ _ x1
  ·exact zD87
 exact key
theorem globalFilters_said:Rows.GlobalFiltersSaid :=
 OpenClaim.holds_of_cond 6 f6 rfl rfl rfl rfl rfl rfl rfl ⟨rfl,rfl,rfl,rfl,rfl⟩ rfl rfl rfl rfl rfl (by kernel_rfl) func6 (by kernel_rfl)
  (of_decide_eq_true (by kernel_rfl)) (by unfold Func.isWrapper;first|(rw[zAz (by decide +kernel)];kernel_rfl)|(rw[zAy (by decide +kernel)];exact⟨rfl,rfl⟩))
  (fun os started H enc _ F=>by rw[OpenClaim.pre_eq_preRow];exact z9q os started H enc F)
theorem zab(f:FuncId)(fn:Func)(hf:Tryz.pinned.checked.prog.funcNamed "corpora/corporalaw26.GlobalFilters" =some f)(hfn:Tryz.pinned.checked.prog.funcs[f]? =some fn) :
 false=Tryz.pinned.checked.prog.looks []∧∀(j:Nat) t,fn.params[j]? =some t→Tryz.pinned.checked.prog.wantsStandIn t=false:=by
 obtain rfl:f=6:=Option.some.inj ((show prog.funcNamed "corpora/corporalaw26.GlobalFilters" =some 6 by kernel_rfl).symm.trans hf) |>.symm
 obtain rfl:fn=f6:=(Option.some.inj (func6.symm.trans hfn)).symm
 refine⟨by kernel_rfl,fun j t ht=>?_⟩
 rw[Tryz.params6]at ht
 exact zD53
theorem globalFilters_card:Rows.GlobalFiltersCardSaid :=
 Claim7.holds_tied_plain_at .later [] _ _ _ _ globalFilters_said (fun _ h=>by cases h) (by kernel_rfl) (fun _ h=>by cases h) globalFilters_row_tie rfl ⟨rfl,rfl⟩ (by kernel_rfl) rfl zab (by kernel_rfl)
#print axioms globalFilters_card
end Go.Proofs.YtonhfccmeammbaaGreatDoor
