/- A law holds for every input; no condition. -/
import Derived.Test.YthdfkabdoidjfaaGreatDoorQz
import Derived.Test.YthdfkabdoidjfaaGreatDoorQ6
import Derived.Test.YthdfkabdoidjfaaGreatDoorQn
import Derived.Test.YthdfkabdoidjfaaGreatDoorQc
import Derived.Test.YthdfkabdoidjfaaGreatDoorCards
import Derived.Test.YthdfkabdoidjfaaGreatDoorTie
import Derived.Lay
import Derived.LaidMore
import Derived.ProofKit
import Derived.OpenShut
import Derived.ChangeMaps5
import Derived.Stop.Joined
import Derived.Deep.DeepHandedRow
set_option linter.all false
namespace Go.Proofs.YthdfkabdoidjfaaGreatDoor
open Go.Ab Go.ChangeShapes Go.WideShapes Go.ChangeAt Go.RowKit
set_option maxRecDepth 100000
set_option maxHeartbeats 20000000
theorem z6r (os:Os):laidMetH Tryz.prog Rows.automatonComplementsRow.laid ((World.laidAll Tryz.prog os Rows.automatonComplementsRow.laid).forCall (fun _ _=>0) ⟨#[],#[Value.agg #[.slice none 0 0,.slice none 0 0]],[]⟩).memory:=by
 rw[MakeChecks.laidMetH_plain _ _ _ (by kernel_rfl)]
 exact laidMet_laidAll _ (by kernel_rfl) (by kernel_rfl)
theorem z65 (os:Os) {H:Type} (enc:TypeId × Value→H):DataW.whole enc Tryz.prog ((World.laidAll Tryz.prog os Rows.automatonComplementsRow.laid).forCall (fun _ _=>0) ⟨#[],#[Value.agg #[.slice none 0 0,.slice none 0 0]],[]⟩).memory Tryz.f7.params.toList Rows.automatonComplementsSpec.vars false #[Value.agg #[.slice none 0 0,.slice none 0 0]].toList 8=some ([.agg [.nil,.nil]],[],[]):=by kernel_rfl
theorem z5u (os:Os) (started:os.Started) (H:Type) (enc:TypeId × Value→H) (F:Stop.Interp) :
 ReturnsInHanded {} Tryz.checked os 7 .any ((OpenSpec.ofChange Rows.automatonComplementsSpec).preRow enc Tryz.prog Tryz.f7 Rows.automatonComplementsRow.domain false Rows.automatonComplementsRow.laid) (((OpenSpec.ofChange Rows.automatonComplementsSpec).at F).post enc Tryz.prog Tryz.f7 false true false false):=by
 have hx:=z65 os enc
 refine returnsInHanded_of_row (C:=Tryz.checked) (s:=OpenSpec.ofChange Rows.automatonComplementsSpec) (by kernel_rfl) started (by kernel_rfl) Tryz.func7
  (witness_row_at (enc:=enc) (C:=Tryz.checked) false (World.laidAll Tryz.prog os Rows.automatonComplementsRow.laid) #[Value.agg #[.slice none 0 0,.slice none 0 0]] (World.laidAll_os _ _ _) (by kernel_rfl) (by kernel_rfl) (by kernel_rfl)
    (OpenSpec.preRow_of_cond 8 hx (by kernel_rfl) (fun k hk=>by cases hk) (by kernel_rfl) (z6r os))) ?_
 intro W base args ds gs before hval0 hW h_1 h_2 h_3 hLaid h_4 h_5
 have hTab:=zs3 hLaid
 obtain⟨τ,hO0,hO1,hD0,hD1⟩:=zxi hTab
 have hval:∀ (j:Nat) t v,Tryz.f7.params[j]? =some t→args[j]? =some v→Value.okWide Tryz.prog W .any base t v:=hval0
 have hW2:DataW.Whole enc Tryz.prog Tryz.f7.params.toList Rows.automatonComplementsSpec.vars false W args.toList ds gs before:=hW
 obtain⟨p,q,hA0,hV,rfl,hfz,hnd⟩:=hW
 have hA:DataW.TrodAll enc Tryz.prog W 0 (fun _=>true) true Tryz.f7.params.toList args.toList ds p:=hA0
 rw[Tryz.params7] at hA hval
 obtain⟨v0,vs0,d0,ds0,p0,q0,e0,rfl,rfl,h0,r0⟩:=trodAll_cons hA
 obtain⟨rfl,rfl,rfl⟩:=trodAll_nil r0
 obtain rfl:args=#[v0]:=by cases args;simp_all
 obtain⟨a0,f0,x0⟩:=y0a hTab.sep (hval 0 _ v0 rfl rfl) h0
 have key:Calls Tryz.prog 7 #[v0] W fun e W2=>∃ v,e=.returned v∧Rows.automatonComplementsSpec.post enc Tryz.prog Tryz.f7 false true false false W #[v0] v W2:=by
  refine(zm8 (P:=Tryz.prog) (vs:=[v0]) (zfk τ a0 f0) W hO0 hO1 hD0 hD1 rfl ?_).mono ?_
  · intro β j pp v hj hv
    match j,hj,hv with
    | 0,hj,hv=>simp at hj hv;subst hj;subst hv;exact .d _ _ x0
  · exact zD95
 exact key
theorem automatonComplements_said:Rows.AutomatonComplementsSaid :=
 OpenClaim.holds_of_cond 7 Tryz.f7 rfl rfl rfl rfl rfl rfl rfl ⟨rfl,rfl,rfl,rfl,rfl⟩ rfl rfl rfl rfl rfl (by kernel_rfl) Tryz.func7 (by kernel_rfl)
  (of_decide_eq_true (by kernel_rfl)) (by unfold Func.isWrapper;first|(rw[zAz (by decide +kernel)];kernel_rfl)|(rw[zAy (by decide +kernel)];exact⟨rfl,rfl⟩))
  (fun os started H enc _ F=>by rw[OpenClaim.pre_eq_preRow];exact z5u os started H enc F)
theorem z6a (f:FuncId) (fn:Func) (hf:Tryz.pinned.checked.prog.funcNamed "corpora/corporalaw20.AutomatonComplements" =some f) (hfn:Tryz.pinned.checked.prog.funcs[f]? =some fn) :
 false=Tryz.pinned.checked.prog.looks []∧∀ (j:Nat) t,fn.params[j]? =some t→Tryz.pinned.checked.prog.wantsStandIn t=false:=by
 obtain rfl:f=7:=Option.some.inj ((show Tryz.prog.funcNamed "corpora/corporalaw20.AutomatonComplements" =some 7 by kernel_rfl).symm.trans hf) |>.symm
 obtain rfl:fn=Tryz.f7:=(Option.some.inj (Tryz.func7.symm.trans hfn)).symm
 refine⟨by kernel_rfl,fun j t ht=>?_⟩
 rw[Tryz.params7] at ht
 have hm:t∈(#[25]:Array TypeId):=Array.mem_of_getElem? ht
 simp only[List.mem_toArray,zAc,List.not_mem_nil,or_false] at hm
 rcases hm with rfl
 · exact(show Tryz.prog.wantsStandIn 25=false by kernel_rfl)
theorem automatonComplements_card:Rows.AutomatonComplementsCardSaid :=
 Claim7.holds_tied_plain_at .later [] _ _ _ _ automatonComplements_said (fun _ h=>by cases h) (by kernel_rfl) (fun _ h=>by cases h) automatonComplements_row_tie rfl ⟨rfl,rfl⟩ (by kernel_rfl) rfl z6a (by kernel_rfl)
#print axioms automatonComplements_card
end Go.Proofs.YthdfkabdoidjfaaGreatDoor
