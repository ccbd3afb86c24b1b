/- A law holds for every input; no condition. -/
import Derived.Test.YtjmbjgecfpggdaaDoorRz
import Derived.Test.YtjmbjgecfpggdaaDoorM38
import Derived.Test.YtjmbjgecfpggdaaDoorRc
import Derived.Test.YtjmbjgecfpggdaaDoorCards
import Derived.Test.YtjmbjgecfpggdaaDoorTie
import Derived.Lay
import Derived.LaidMore
import Derived.ProofKit
import Derived.OpenShut
import Derived.ChangeMaps5
import Derived.Stop.Joined
import Derived.Deep.DeepHandedRow
set_option linter.all false
set_option linter.unusedVariables false
set_option linter.unusedSimpArgs false
namespace Go.Proofs.YtjmbjgecfpggdaaDoor
open Go.Ab Go.ChangeShapes Go.WideShapes Go.ChangeAt Go.RowKit
set_option linter.unusedVariables false
set_option linter.unusedSimpArgs false
set_option maxRecDepth 100000
set_option maxHeartbeats 20000000
theorem regexCases_met (os : Os) : laidMetH Tryd.prog Rows.regexCasesRow.laid ((World.laidAll Tryd.prog os Rows.regexCasesRow.laid).forCall (fun _ _ => 0) ⟨#[], #[Value.agg #[.int .i64 0, .int .i64 0, .int .i64 0, .slice none 0 0, .slice none 0 0], Value.string ⟨#[]⟩], []⟩).memory := by
  rw [MakeChecks.laidMetH_plain _ _ _ (by kernel_rfl)]
  exact laidMet_laidAll _ (by kernel_rfl) (by kernel_rfl)
theorem regexCases_reads (os : Os) {H : Type} (enc : TypeId × Value → H) : DataW.whole enc Tryd.prog ((World.laidAll Tryd.prog os Rows.regexCasesRow.laid).forCall (fun _ _ => 0) ⟨#[], #[Value.agg #[.int .i64 0, .int .i64 0, .int .i64 0, .slice none 0 0, .slice none 0 0], Value.string ⟨#[]⟩], []⟩).memory Tryd.f5.params.toList Rows.regexCasesSpec.vars false #[Value.agg #[.int .i64 0, .int .i64 0, .int .i64 0, .slice none 0 0, .slice none 0 0], Value.string ⟨#[]⟩].toList 8 = some ([.agg [.lit (.int .i64 0), .lit (.int .i64 0), .lit (.int .i64 0), .nil, .nil], .lit (.string [])], [], []) := by kernel_rfl
theorem regexCases_lifted (os : Os) (started : os.Started) (H : Type) (enc : TypeId × Value → H) (F : Stop.Interp) :
    ReturnsInHanded {} Tryd.checked os 5 .any ((OpenSpec.ofChange Rows.regexCasesSpec).preRow enc Tryd.prog Tryd.f5 Rows.regexCasesRow.domain false Rows.regexCasesRow.laid) (((OpenSpec.ofChange Rows.regexCasesSpec).at F).post enc Tryd.prog Tryd.f5 false true false false) := by
  have hx := regexCases_reads os enc
  refine returnsInHanded_of_row (C := Tryd.checked) (s := OpenSpec.ofChange Rows.regexCasesSpec) (by kernel_rfl) started (by kernel_rfl) Tryd.func5
    (witness_row_at (enc := enc) (C := Tryd.checked) false (World.laidAll Tryd.prog os Rows.regexCasesRow.laid) #[Value.agg #[.int .i64 0, .int .i64 0, .int .i64 0, .slice none 0 0, .slice none 0 0], Value.string ⟨#[]⟩] (World.laidAll_os _ _ _) (by kernel_rfl) (by kernel_rfl) (by kernel_rfl)
      (OpenSpec.preRow_of_cond 8 hx (by kernel_rfl) (fun k hk => by cases hk) (by kernel_rfl) (regexCases_met os))) ?_
  intro W base args ds gs before hval0 hW _ _ _ hLaid _ _
  have hTab := tabs_in hLaid
  obtain ⟨τ, hO0, hO1, hD0, hD1⟩ := tab_of hTab
  have hval : ∀ (j : Nat) t v, Tryd.f5.params[j]? = some t → args[j]? = some v → Value.okWide Tryd.prog W .any base t v := hval0
  have hW2 : DataW.Whole enc Tryd.prog Tryd.f5.params.toList Rows.regexCasesSpec.vars false W args.toList ds gs before := hW
  obtain ⟨p, q, hA0, hV, rfl, hfz, hnd⟩ := hW
  have hA : DataW.TrodAll enc Tryd.prog W 0 (fun _ => true) true Tryd.f5.params.toList args.toList ds p := hA0
  rw [Tryd.params5] at hA hval
  obtain ⟨v0, vs0, d0, ds0, p0, q0, e0, rfl, rfl, h0, r0⟩ := trodAll_cons hA
  obtain ⟨v1, vs1, d1, ds1, p1, q1, rfl, rfl, rfl, h1, r1⟩ := trodAll_cons r0
  obtain ⟨rfl, rfl, rfl⟩ := trodAll_nil r1
  obtain rfl : args = #[v0, v1] := by cases args; simp_all
  obtain ⟨a0, f0, x0⟩ := in_rx hTab.sep (hval 0 _ v0 rfl rfl) h0
  obtain ⟨a1, rfl, rfl, rfl, w1⟩ := Go.ChangeMaps.open_string (by kernel_rfl) (hval 1 _ v1 rfl rfl) h1
  have key : Calls Tryd.prog 5 #[v0, .string a1] W fun e W2 => ∃ v, e = .returned v ∧ Rows.regexCasesSpec.post enc Tryd.prog Tryd.f5 false true false false W #[v0, .string a1] v W2 := by
    refine (law_runT (P := Tryd.prog) (vs := [v0, .string a1]) (cases_s τ a0 f0 a1) W hO0 hO1 hD0 hD1 rfl ?_).mono ?_
    · intro β j pp v hj hv
      match j, hj, hv with
      | 0, hj, hv => simp at hj hv; subst hj; subst hv; exact .d _ _ x0
      | 1, hj, hv => simp at hj hv; subst hj; subst hv; exact PR.S _
    · rintro e W2 ⟨he, own2, hE⟩
      exact ⟨_, he, law_post (P := Tryd.prog) (tb := 4) (by kernel_rfl) (by kernel_rfl) hW2 hE rfl rfl (by kernel_rfl) (by kernel_rfl)⟩
  exact key
theorem regexCases_said : Rows.RegexCasesSaid :=
  OpenClaim.holds_of_cond 5 Tryd.f5 rfl rfl rfl rfl rfl rfl rfl ⟨rfl, rfl, rfl, rfl, rfl⟩ rfl rfl rfl rfl rfl (by kernel_rfl) Tryd.func5 (by kernel_rfl)
    (of_decide_eq_true (by kernel_rfl)) (by unfold Func.isWrapper; first | (rw [if_pos (by decide +kernel)]; kernel_rfl) | (rw [if_neg (by decide +kernel)]; exact ⟨rfl, rfl⟩))
    (fun os started H enc _ F => by rw [OpenClaim.pre_eq_preRow]; exact regexCases_lifted os started H enc F)
theorem regexCases_plain (f : FuncId) (fn : Func) (hf : Tryd.pinned.checked.prog.funcNamed "corpora/corporalaw19.RegexCases" = some f) (hfn : Tryd.pinned.checked.prog.funcs[f]? = some fn) :
    false = Tryd.pinned.checked.prog.looks [] ∧ ∀ (j : Nat) t, fn.params[j]? = some t → Tryd.pinned.checked.prog.wantsStandIn t = false := by
  obtain rfl : f = 5 := Option.some.inj ((show Tryd.prog.funcNamed "corpora/corporalaw19.RegexCases" = some 5 by kernel_rfl).symm.trans hf) |>.symm
  obtain rfl : fn = Tryd.f5 := (Option.some.inj (Tryd.func5.symm.trans hfn)).symm
  refine ⟨by kernel_rfl, fun j t ht => ?_⟩
  rw [Tryd.params5] at ht
  have hm : t ∈ (#[25, 9] : Array TypeId) := Array.mem_of_getElem? ht
  simp only [List.mem_toArray, List.mem_cons, List.not_mem_nil, or_false] at hm
  rcases hm with rfl | rfl
  · exact (show Tryd.prog.wantsStandIn 25 = false by kernel_rfl)
  · exact (show Tryd.prog.wantsStandIn 9 = false by kernel_rfl)
theorem regexCases_card : Rows.RegexCasesCardSaid :=
  Claim7.holds_tied_plain_at .later [] _ _ _ _ regexCases_said (fun _ h => by cases h) (by kernel_rfl) (fun _ h => by cases h) regexCases_row_tie rfl ⟨rfl, rfl⟩ (by kernel_rfl) rfl regexCases_plain (by kernel_rfl)
#print axioms regexCases_card
end Go.Proofs.YtjmbjgecfpggdaaDoor
