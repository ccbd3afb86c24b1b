/- A law holds for every input; no condition. -/
import Derived.Test.YthdfkabdoidjfaaGreatDoorUz
import Derived.Test.YthdfkabdoidjfaaGreatDoorU6
import Derived.Test.YthdfkabdoidjfaaGreatDoorUj
import Derived.Test.YthdfkabdoidjfaaGreatDoorUc
import Derived.Test.YthdfkabdoidjfaaGreatDoorCards
import Derived.Test.YthdfkabdoidjfaaGreatDoorTie
import Derived.Lay
import Derived.LaidMore
import Derived.ProofKit
import Derived.OpenShut
import Derived.ChangeMaps5
import Derived.Stop.Joined
import Derived.Deep.DeepHandedRow
set_option linter.all false
namespace Go.Proofs.YthdfkabdoidjfaaGreatDoor
open Go.Ab Go.ChangeShapes Go.WideShapes Go.ChangeAt Go.RowKit
set_option maxRecDepth 100000
set_option maxHeartbeats 20000000
theorem z83 (os:Os):laidMetH Tryz.prog Rows.automatonDecidesRow.laid ((World.laidAll Tryz.prog os Rows.automatonDecidesRow.laid).forCall (fun _ _=>0) ⟨#[],#[Value.agg #[.slice none 0 0,.slice none 0 0],Value.agg #[.slice none 0 0,.slice none 0 0]],[]⟩).memory:=by
 rw[MakeChecks.laidMetH_plain _ _ _ (by kernel_rfl)]
 exact laidMet_laidAll _ (by kernel_rfl) (by kernel_rfl)
theorem z6l (os:Os) {H:Type} (enc:TypeId × Value→H):DataW.whole enc Tryz.prog ((World.laidAll Tryz.prog os Rows.automatonDecidesRow.laid).forCall (fun _ _=>0) ⟨#[],#[Value.agg #[.slice none 0 0,.slice none 0 0],Value.agg #[.slice none 0 0,.slice none 0 0]],[]⟩).memory Tryz.f14.params.toList Rows.automatonDecidesSpec.vars false #[Value.agg #[.slice none 0 0,.slice none 0 0],Value.agg #[.slice none 0 0,.slice none 0 0]].toList 8=some ([.agg [.nil,.nil],.agg [.nil,.nil]],[],[]):=by kernel_rfl
theorem z69 (os:Os) (started:os.Started) (H:Type) (enc:TypeId × Value→H) (F:Stop.Interp) :
 ReturnsInHanded {} Tryz.checked os 14 .any ((OpenSpec.ofChange Rows.automatonDecidesSpec).preRow enc Tryz.prog Tryz.f14 Rows.automatonDecidesRow.domain false Rows.automatonDecidesRow.laid) (((OpenSpec.ofChange Rows.automatonDecidesSpec).at F).post enc Tryz.prog Tryz.f14 false true false false):=by
 have hx:=z6l os enc
 refine returnsInHanded_of_row (C:=Tryz.checked) (s:=OpenSpec.ofChange Rows.automatonDecidesSpec) (by kernel_rfl) started (by kernel_rfl) Tryz.func14
  (witness_row_at (enc:=enc) (C:=Tryz.checked) false (World.laidAll Tryz.prog os Rows.automatonDecidesRow.laid) #[Value.agg #[.slice none 0 0,.slice none 0 0],Value.agg #[.slice none 0 0,.slice none 0 0]] (World.laidAll_os _ _ _) (by kernel_rfl) (by kernel_rfl) (by kernel_rfl)
    (OpenSpec.preRow_of_cond 8 hx (by kernel_rfl) (fun k hk=>by cases hk) (by kernel_rfl) (z83 os))) ?_
 intro W base args ds gs before hval0 hW h_1 h_2 h_3 hLaid h_4 h_5
 have hTab:=y0h hLaid
 obtain⟨τ,hO0,hO1,hD0,hD1⟩:=y4l hTab
 have hval:∀ (j:Nat) t v,Tryz.f14.params[j]? =some t→args[j]? =some v→Value.okWide Tryz.prog W .any base t v:=hval0
 have hW2:DataW.Whole enc Tryz.prog Tryz.f14.params.toList Rows.automatonDecidesSpec.vars false W args.toList ds gs before:=hW
 obtain⟨p,q,hA0,hV,rfl,hfz,hnd⟩:=hW
 have hA:DataW.TrodAll enc Tryz.prog W 0 (fun _=>true) true Tryz.f14.params.toList args.toList ds p:=hA0
 rw[Tryz.params14] at hA hval
 obtain⟨v0,vs0,d0,ds0,p0,q0,e0,rfl,rfl,h0,r0⟩:=trodAll_cons hA
 obtain⟨v1,vs1,d1,ds1,p1,q1,rfl,rfl,rfl,h1,r1⟩:=trodAll_cons r0
 obtain⟨rfl,rfl,rfl⟩:=trodAll_nil r1
 obtain rfl:args=#[v0,v1]:=by cases args;simp_all
 obtain⟨a0,f0,x0⟩:=y3z hTab.sep (hval 0 _ v0 rfl rfl) h0
 obtain⟨a1,f1,x1⟩:=y3z hTab.sep (hval 1 _ v1 rfl rfl) h1
 have key:Calls Tryz.prog 14 #[v0,v1] W fun e W2=>∃ v,e=.returned v∧Rows.automatonDecidesSpec.post enc Tryz.prog Tryz.f14 false true false false W #[v0,v1] v W2:=by
  refine(zwa (P:=Tryz.prog) (vs:=[v0,v1]) (zro τ a0 a1 f0 f1) W hO0 hO1 hD0 hD1 rfl ?_).mono ?_
  · intro β j pp v hj hv
    match j,hj,hv with
    | 0,hj,hv=>simp at hj hv;subst hj;subst hv;exact .d _ _ x0
    | 1,hj,hv=>simp at hj hv;subst hj;subst hv;exact .d _ _ x1
  · rintro e W2 ⟨he,own2,hE⟩
    exact⟨_,he,ztu (P:=Tryz.prog) (tb:=4) (by kernel_rfl) (by kernel_rfl) hW2 hE rfl rfl (by kernel_rfl) (by kernel_rfl)⟩
 exact key
theorem automatonDecides_said:Rows.AutomatonDecidesSaid :=
 OpenClaim.holds_of_cond 14 Tryz.f14 rfl rfl rfl rfl rfl rfl rfl ⟨rfl,rfl,rfl,rfl,rfl⟩ rfl rfl rfl rfl rfl (by kernel_rfl) Tryz.func14 (by kernel_rfl)
  (of_decide_eq_true (by kernel_rfl)) (by unfold Func.isWrapper;first|(rw[zAz (by decide +kernel)];kernel_rfl)|(rw[zAy (by decide +kernel)];exact⟨rfl,rfl⟩))
  (fun os started H enc _ F=>by rw[OpenClaim.pre_eq_preRow];exact z69 os started H enc F)
theorem z6m (f:FuncId) (fn:Func) (hf:Tryz.pinned.checked.prog.funcNamed "corpora/corporalaw20.AutomatonDecides" =some f) (hfn:Tryz.pinned.checked.prog.funcs[f]? =some fn) :
 false=Tryz.pinned.checked.prog.looks []∧∀ (j:Nat) t,fn.params[j]? =some t→Tryz.pinned.checked.prog.wantsStandIn t=false:=by
 obtain rfl:f=14:=Option.some.inj ((show Tryz.prog.funcNamed "corpora/corporalaw20.AutomatonDecides" =some 14 by kernel_rfl).symm.trans hf) |>.symm
 obtain rfl:fn=Tryz.f14:=(Option.some.inj (Tryz.func14.symm.trans hfn)).symm
 refine⟨by kernel_rfl,fun j t ht=>?_⟩
 rw[Tryz.params14] at ht
 have hm:t∈(#[25,25]:Array TypeId):=Array.mem_of_getElem? ht
 simp only[List.mem_toArray,zAc,List.not_mem_nil,or_false] at hm
 rcases hm with rfl|rfl
 · exact(show Tryz.prog.wantsStandIn 25=false by kernel_rfl)
 · exact(show Tryz.prog.wantsStandIn 25=false by kernel_rfl)
theorem automatonDecides_card:Rows.AutomatonDecidesCardSaid :=
 Claim7.holds_tied_plain_at .later [] _ _ _ _ automatonDecides_said (fun _ h=>by cases h) (by kernel_rfl) (fun _ h=>by cases h) automatonDecides_row_tie rfl ⟨rfl,rfl⟩ (by kernel_rfl) rfl z6m (by kernel_rfl)
#print axioms automatonDecides_card
end Go.Proofs.YthdfkabdoidjfaaGreatDoor
