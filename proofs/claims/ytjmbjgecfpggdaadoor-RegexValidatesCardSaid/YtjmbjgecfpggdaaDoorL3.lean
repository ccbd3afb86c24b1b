/- A law holds for every input; no condition. -/
import Derived.Test.YtjmbjgecfpggdaaDoorRz
import Derived.Test.YtjmbjgecfpggdaaDoorRc
import Derived.Test.YtjmbjgecfpggdaaDoorCards
import Derived.Test.YtjmbjgecfpggdaaDoorTie
import Derived.Lay
import Derived.LaidMore
import Derived.ProofKit
import Derived.OpenShut
import Derived.Stop.Joined
import Derived.Deep.DeepHandedRow
set_option linter.all false
set_option linter.unusedVariables false
set_option linter.unusedSimpArgs false
namespace Go.Proofs.YtjmbjgecfpggdaaDoor
open Go.Ab Go.ChangeShapes Go.WideShapes Go.ChangeAt Go.RowKit
set_option linter.unusedVariables false
set_option linter.unusedSimpArgs false
set_option maxRecDepth 100000
set_option maxHeartbeats 20000000
theorem regexValidates_met (os : Os) : laidMetH Tryd.prog Rows.regexValidatesRow.laid ((World.laidAll Tryd.prog os Rows.regexValidatesRow.laid).forCall (fun _ _ => 0) ⟨#[], #[Value.agg #[.int .i64 0, .int .i64 0, .int .i64 0, .slice none 0 0, .slice none 0 0]], []⟩).memory := by
  rw [MakeChecks.laidMetH_plain _ _ _ (by kernel_rfl)]
  exact laidMet_laidAll _ (by kernel_rfl) (by kernel_rfl)
theorem regexValidates_reads (os : Os) {H : Type} (enc : TypeId × Value → H) : DataW.whole enc Tryd.prog ((World.laidAll Tryd.prog os Rows.regexValidatesRow.laid).forCall (fun _ _ => 0) ⟨#[], #[Value.agg #[.int .i64 0, .int .i64 0, .int .i64 0, .slice none 0 0, .slice none 0 0]], []⟩).memory Tryd.f3.params.toList Rows.regexValidatesSpec.vars false #[Value.agg #[.int .i64 0, .int .i64 0, .int .i64 0, .slice none 0 0, .slice none 0 0]].toList 8 = some ([.agg [.lit (.int .i64 0), .lit (.int .i64 0), .lit (.int .i64 0), .nil, .nil]], [], []) := by kernel_rfl
theorem regexValidates_lifted (os : Os) (started : os.Started) (H : Type) (enc : TypeId × Value → H) (F : Stop.Interp) :
    ReturnsInHanded {} Tryd.checked os 3 .any ((OpenSpec.ofChange Rows.regexValidatesSpec).preRow enc Tryd.prog Tryd.f3 Rows.regexValidatesRow.domain false Rows.regexValidatesRow.laid) (((OpenSpec.ofChange Rows.regexValidatesSpec).at F).post enc Tryd.prog Tryd.f3 false true false false) := by
  have hx := regexValidates_reads os enc
  refine returnsInHanded_of_row (C := Tryd.checked) (s := OpenSpec.ofChange Rows.regexValidatesSpec) (by kernel_rfl) started (by kernel_rfl) Tryd.func3
    (witness_row_at (enc := enc) (C := Tryd.checked) false (World.laidAll Tryd.prog os Rows.regexValidatesRow.laid) #[Value.agg #[.int .i64 0, .int .i64 0, .int .i64 0, .slice none 0 0, .slice none 0 0]] (World.laidAll_os _ _ _) (by kernel_rfl) (by kernel_rfl) (by kernel_rfl)
      (OpenSpec.preRow_of_cond 8 hx (by kernel_rfl) (fun k hk => by cases hk) (by kernel_rfl) (regexValidates_met os))) ?_
  intro W base args ds gs before hval0 hW _ _ _ hLaid _ _
  have hTab := tabs_in hLaid
  obtain ⟨τ, hO0, hO1, hD0, hD1⟩ := tab_of hTab
  have hval : ∀ (j : Nat) t v, Tryd.f3.params[j]? = some t → args[j]? = some v → Value.okWide Tryd.prog W .any base t v := hval0
  have hW2 : DataW.Whole enc Tryd.prog Tryd.f3.params.toList Rows.regexValidatesSpec.vars false W args.toList ds gs before := hW
  obtain ⟨p, q, hA0, hV, rfl, hfz, hnd⟩ := hW
  have hA : DataW.TrodAll enc Tryd.prog W 0 (fun _ => true) true Tryd.f3.params.toList args.toList ds p := hA0
  rw [Tryd.params3] at hA hval
  obtain ⟨v0, vs0, d0, ds0, p0, q0, e0, rfl, rfl, h0, r0⟩ := trodAll_cons hA
  obtain ⟨rfl, rfl, rfl⟩ := trodAll_nil r0
  obtain rfl : args = #[v0] := by cases args; simp_all
  obtain ⟨a0, f0, x0⟩ := in_rx hTab.sep (hval 0 _ v0 rfl rfl) h0
  have key : Calls Tryd.prog 3 #[v0] W fun e W2 => ∃ v, e = .returned v ∧ Rows.regexValidatesSpec.post enc Tryd.prog Tryd.f3 false true false false W #[v0] v W2 := by
    refine (law_runT (P := Tryd.prog) (vs := [v0]) (validates_s τ a0 f0) W hO0 hO1 hD0 hD1 rfl ?_).mono ?_
    · intro β j pp v hj hv
      match j, hj, hv with
      | 0, hj, hv => simp at hj hv; subst hj; subst hv; exact .d _ _ x0
    · rintro e W2 ⟨he, own2, hE⟩
      exact ⟨_, he, law_post (P := Tryd.prog) (tb := 4) (by kernel_rfl) (by kernel_rfl) hW2 hE rfl rfl (by kernel_rfl) (by kernel_rfl)⟩
  exact key
theorem regexValidates_said : Rows.RegexValidatesSaid :=
  OpenClaim.holds_of_cond 3 Tryd.f3 rfl rfl rfl rfl rfl rfl rfl ⟨rfl, rfl, rfl, rfl, rfl⟩ rfl rfl rfl rfl rfl (by kernel_rfl) Tryd.func3 (by kernel_rfl)
    (of_decide_eq_true (by kernel_rfl)) (by unfold Func.isWrapper; first | (rw [if_pos (by decide +kernel)]; kernel_rfl) | (rw [if_neg (by decide +kernel)]; exact ⟨rfl, rfl⟩))
    (fun os started H enc _ F => by rw [OpenClaim.pre_eq_preRow]; exact regexValidates_lifted os started H enc F)
theorem regexValidates_plain (f : FuncId) (fn : Func) (hf : Tryd.pinned.checked.prog.funcNamed "corpora/corporalaw19.RegexValidates" = some f) (hfn : Tryd.pinned.checked.prog.funcs[f]? = some fn) :
    false = Tryd.pinned.checked.prog.looks [] ∧ ∀ (j : Nat) t, fn.params[j]? = some t → Tryd.pinned.checked.prog.wantsStandIn t = false := by
  obtain rfl : f = 3 := Option.some.inj ((show Tryd.prog.funcNamed "corpora/corporalaw19.RegexValidates" = some 3 by kernel_rfl).symm.trans hf) |>.symm
  obtain rfl : fn = Tryd.f3 := (Option.some.inj (Tryd.func3.symm.trans hfn)).symm
  refine ⟨by kernel_rfl, fun j t ht => ?_⟩
  rw [Tryd.params3] at ht
  have hm : t ∈ (#[25] : Array TypeId) := Array.mem_of_getElem? ht
  simp only [List.mem_toArray, List.mem_cons, List.not_mem_nil, or_false] at hm
  rcases hm with rfl
  · exact (show Tryd.prog.wantsStandIn 25 = false by kernel_rfl)
theorem regexValidates_card : Rows.RegexValidatesCardSaid :=
  Claim7.holds_tied_plain_at .later [] _ _ _ _ regexValidates_said (fun _ h => by cases h) (by kernel_rfl) (fun _ h => by cases h) regexValidates_row_tie rfl ⟨rfl, rfl⟩ (by kernel_rfl) rfl regexValidates_plain (by kernel_rfl)
#print axioms regexValidates_card
end Go.Proofs.YtjmbjgecfpggdaaDoor
