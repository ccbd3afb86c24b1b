/- A law holds for every input; no condition. -/
import Derived.Test.YtjmbjgecfpggdaaDoorRz
import Derived.Test.YtjmbjgecfpggdaaDoorM41
import Derived.Test.YtjmbjgecfpggdaaDoorRc
import Derived.Test.YtjmbjgecfpggdaaDoorCards
import Derived.Test.YtjmbjgecfpggdaaDoorTie
import Derived.Lay
import Derived.LaidMore
import Derived.ProofKit
import Derived.OpenShut
import Derived.ChangeMaps5
import Derived.Stop.Joined
import Derived.Deep.DeepHandedRow
set_option linter.all false
set_option linter.unusedVariables false
set_option linter.unusedSimpArgs false
namespace Go.Proofs.YtjmbjgecfpggdaaDoor
open Go.Ab Go.ChangeShapes Go.WideShapes Go.ChangeAt Go.RowKit
set_option linter.unusedVariables false
set_option linter.unusedSimpArgs false
set_option maxRecDepth 100000
set_option maxHeartbeats 20000000
theorem regexAlgebra_met (os : Os) : laidMetH Tryd.prog Rows.regexAlgebraRow.laid ((World.laidAll Tryd.prog os Rows.regexAlgebraRow.laid).forCall (fun _ _ => 0) ⟨#[], #[Value.agg #[.int .i64 0, .int .i64 0, .int .i64 0, .slice none 0 0, .slice none 0 0], Value.agg #[.int .i64 0, .int .i64 0, .int .i64 0, .slice none 0 0, .slice none 0 0], Value.string ⟨#[]⟩], []⟩).memory := by
  rw [MakeChecks.laidMetH_plain _ _ _ (by kernel_rfl)]
  exact laidMet_laidAll _ (by kernel_rfl) (by kernel_rfl)
theorem regexAlgebra_reads (os : Os) {H : Type} (enc : TypeId × Value → H) : DataW.whole enc Tryd.prog ((World.laidAll Tryd.prog os Rows.regexAlgebraRow.laid).forCall (fun _ _ => 0) ⟨#[], #[Value.agg #[.int .i64 0, .int .i64 0, .int .i64 0, .slice none 0 0, .slice none 0 0], Value.agg #[.int .i64 0, .int .i64 0, .int .i64 0, .slice none 0 0, .slice none 0 0], Value.string ⟨#[]⟩], []⟩).memory Tryd.f7.params.toList Rows.regexAlgebraSpec.vars false #[Value.agg #[.int .i64 0, .int .i64 0, .int .i64 0, .slice none 0 0, .slice none 0 0], Value.agg #[.int .i64 0, .int .i64 0, .int .i64 0, .slice none 0 0, .slice none 0 0], Value.string ⟨#[]⟩].toList 8 = some ([.agg [.lit (.int .i64 0), .lit (.int .i64 0), .lit (.int .i64 0), .nil, .nil], .agg [.lit (.int .i64 0), .lit (.int .i64 0), .lit (.int .i64 0), .nil, .nil], .lit (.string [])], [], []) := by kernel_rfl
theorem regexAlgebra_lifted (os : Os) (started : os.Started) (H : Type) (enc : TypeId × Value → H) (F : Stop.Interp) :
    ReturnsInHanded {} Tryd.checked os 7 .any ((OpenSpec.ofChange Rows.regexAlgebraSpec).preRow enc Tryd.prog Tryd.f7 Rows.regexAlgebraRow.domain false Rows.regexAlgebraRow.laid) (((OpenSpec.ofChange Rows.regexAlgebraSpec).at F).post enc Tryd.prog Tryd.f7 false true false false) := by
  have hx := regexAlgebra_reads os enc
  refine returnsInHanded_of_row (C := Tryd.checked) (s := OpenSpec.ofChange Rows.regexAlgebraSpec) (by kernel_rfl) started (by kernel_rfl) Tryd.func7
    (witness_row_at (enc := enc) (C := Tryd.checked) false (World.laidAll Tryd.prog os Rows.regexAlgebraRow.laid) #[Value.agg #[.int .i64 0, .int .i64 0, .int .i64 0, .slice none 0 0, .slice none 0 0], Value.agg #[.int .i64 0, .int .i64 0, .int .i64 0, .slice none 0 0, .slice none 0 0], Value.string ⟨#[]⟩] (World.laidAll_os _ _ _) (by kernel_rfl) (by kernel_rfl) (by kernel_rfl)
      (OpenSpec.preRow_of_cond 8 hx (by kernel_rfl) (fun k hk => by cases hk) (by kernel_rfl) (regexAlgebra_met os))) ?_
  intro W base args ds gs before hval0 hW h_1 h_2 h_3 hLaid h_4 h_5
  have hTab := tabs_in hLaid
  obtain ⟨τ, hO0, hO1, hD0, hD1⟩ := tab_of hTab
  have hval : ∀ (j : Nat) t v, Tryd.f7.params[j]? = some t → args[j]? = some v → Value.okWide Tryd.prog W .any base t v := hval0
  have hW2 : DataW.Whole enc Tryd.prog Tryd.f7.params.toList Rows.regexAlgebraSpec.vars false W args.toList ds gs before := hW
  obtain ⟨p, q, hA0, hV, rfl, hfz, hnd⟩ := hW
  have hA : DataW.TrodAll enc Tryd.prog W 0 (fun _ => true) true Tryd.f7.params.toList args.toList ds p := hA0
  rw [Tryd.params7] at hA hval
  obtain ⟨v0, vs0, d0, ds0, p0, q0, e0, rfl, rfl, h0, r0⟩ := trodAll_cons hA
  obtain ⟨v1, vs1, d1, ds1, p1, q1, rfl, rfl, rfl, h1, r1⟩ := trodAll_cons r0
  obtain ⟨v2, vs2, d2, ds2, p2, q2, rfl, rfl, rfl, h2, r2⟩ := trodAll_cons r1
  obtain ⟨rfl, rfl, rfl⟩ := trodAll_nil r2
  obtain rfl : args = #[v0, v1, v2] := by cases args; simp_all
  obtain ⟨a0, f0, x0⟩ := in_rx hTab.sep (hval 0 _ v0 rfl rfl) h0
  obtain ⟨a1, f1, x1⟩ := in_rx hTab.sep (hval 1 _ v1 rfl rfl) h1
  obtain ⟨a2, rfl, rfl, rfl, w2⟩ := Go.ChangeMaps.open_string (by kernel_rfl) (hval 2 _ v2 rfl rfl) h2
  have key : Calls Tryd.prog 7 #[v0, v1, .string a2] W fun e W2 => ∃ v, e = .returned v ∧ Rows.regexAlgebraSpec.post enc Tryd.prog Tryd.f7 false true false false W #[v0, v1, .string a2] v W2 := by
    refine (law_runT (P := Tryd.prog) (vs := [v0, v1, .string a2]) (algebra_s τ a0 f0 a1 f1 a2) W hO0 hO1 hD0 hD1 rfl ?_).mono ?_
    · intro β j pp v hj hv
      match j, hj, hv with
      | 0, hj, hv => simp at hj hv; subst hj; subst hv; exact .d _ _ x0
      | 1, hj, hv => simp at hj hv; subst hj; subst hv; exact .d _ _ x1
      | 2, hj, hv => simp at hj hv; subst hj; subst hv; exact PR.S _
    · rintro e W2 ⟨he, own2, hE⟩
      exact ⟨_, he, law_post (P := Tryd.prog) (tb := 4) (by kernel_rfl) (by kernel_rfl) hW2 hE rfl rfl (by kernel_rfl) (by kernel_rfl)⟩
  exact key
theorem regexAlgebra_said : Rows.RegexAlgebraSaid :=
  OpenClaim.holds_of_cond 7 Tryd.f7 rfl rfl rfl rfl rfl rfl rfl ⟨rfl, rfl, rfl, rfl, rfl⟩ rfl rfl rfl rfl rfl (by kernel_rfl) Tryd.func7 (by kernel_rfl)
    (of_decide_eq_true (by kernel_rfl)) (by unfold Func.isWrapper; first | (rw [if_pos (by decide +kernel)]; kernel_rfl) | (rw [if_neg (by decide +kernel)]; exact ⟨rfl, rfl⟩))
    (fun os started H enc _ F => by rw [OpenClaim.pre_eq_preRow]; exact regexAlgebra_lifted os started H enc F)
theorem regexAlgebra_plain (f : FuncId) (fn : Func) (hf : Tryd.pinned.checked.prog.funcNamed "corpora/corporalaw19.RegexAlgebra" = some f) (hfn : Tryd.pinned.checked.prog.funcs[f]? = some fn) :
    false = Tryd.pinned.checked.prog.looks [] ∧ ∀ (j : Nat) t, fn.params[j]? = some t → Tryd.pinned.checked.prog.wantsStandIn t = false := by
  obtain rfl : f = 7 := Option.some.inj ((show Tryd.prog.funcNamed "corpora/corporalaw19.RegexAlgebra" = some 7 by kernel_rfl).symm.trans hf) |>.symm
  obtain rfl : fn = Tryd.f7 := (Option.some.inj (Tryd.func7.symm.trans hfn)).symm
  refine ⟨by kernel_rfl, fun j t ht => ?_⟩
  rw [Tryd.params7] at ht
  have hm : t ∈ (#[25, 25, 9] : Array TypeId) := Array.mem_of_getElem? ht
  simp only [List.mem_toArray, List.mem_cons, List.not_mem_nil, or_false] at hm
  rcases hm with rfl | rfl | rfl
  · exact (show Tryd.prog.wantsStandIn 25 = false by kernel_rfl)
  · exact (show Tryd.prog.wantsStandIn 25 = false by kernel_rfl)
  · exact (show Tryd.prog.wantsStandIn 9 = false by kernel_rfl)
theorem regexAlgebra_card : Rows.RegexAlgebraCardSaid :=
  Claim7.holds_tied_plain_at .later [] _ _ _ _ regexAlgebra_said (fun _ h => by cases h) (by kernel_rfl) (fun _ h => by cases h) regexAlgebra_row_tie rfl ⟨rfl, rfl⟩ (by kernel_rfl) rfl regexAlgebra_plain (by kernel_rfl)
#print axioms regexAlgebra_card
end Go.Proofs.YtjmbjgecfpggdaaDoor
