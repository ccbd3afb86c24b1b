/- A law holds for every input; no condition. -/
import Derived.Test.YtiapeheclfkdmaaWj
import Derived.Test.YtiapeheclfkdmaaFd
import Derived.Test.YtiapeheclfkdmaaRows
set_option linter.all false
set_option linter.unusedVariables false
set_option linter.unusedSimpArgs false
namespace Go.Proofs.Ytiapeheclfkdmaa
open Go.Ab Go.ChangeShapes Go.WideShapes Go.ChangeAt Go.RowKit
set_option linter.unusedVariables false
set_option linter.unusedSimpArgs false
set_option maxRecDepth 100000
set_option maxHeartbeats 20000000
theorem stabRelates_lifted (os : Os) (started : os.Started) (H : Type) (enc : TypeId × Value → H) :
    ReturnsInHanded {} Try.checked os 7 .any (Rows.stabRelatesSpec.pre6 enc Try.prog Try.f7 Rows.stabRelatesRow.domain false) (Rows.stabRelatesSpec.post enc Try.prog Try.f7 false true false false) := by
  refine returnsInHanded_of_change (C := Try.checked) (by kernel_rfl) started (by kernel_rfl) Try.func7
    (ChangeSpec.witness6 (enc := enc) (C := Try.checked) false ⟨#[], #[.slice none 0 0, .agg #[.int .i64 0, .int .i64 0]], []⟩ 8 (by kernel_rfl) (by kernel_rfl) (by kernel_rfl) (by kernel_rfl)) ?_
  intro W base args ds gs before hval0 hW hcnd _
  have hval : ∀ (j : Nat) t v, Try.f7.params[j]? = some t → args[j]? = some v → Value.okWide Try.prog W .any base t v := hval0
  have hW2 := hW
  obtain ⟨p, q, hA0, hV, rfl, hfz, hnd⟩ := hW
  have hA : DataW.TrodAll enc Try.prog W 0 (fun _ => true) true Try.f7.params.toList args.toList ds p := hA0
  rw [Try.params7] at hA hval
  obtain ⟨v0, vs0, d0, ds0, p0, q0, e0, rfl, rfl, h0, r0⟩ := trodAll_cons hA
  obtain ⟨v1, vs1, d1, ds1, p1, q1, rfl, rfl, rfl, h1, r1⟩ := trodAll_cons r0
  obtain ⟨rfl, rfl, rfl⟩ := trodAll_nil r1
  obtain rfl : args = #[v0, v1] := by cases args; simp_all
  obtain ⟨a0, l0, x0⟩ := in_spans (hval 0 22 v0 rfl rfl) h0
  obtain ⟨a1, l1, x1⟩ := in_spanb (hval 1 35 v1 rfl rfl) h1
  have key : Calls Try.prog 7 #[v0, v1] W fun e W2 => ∃ v, e = .returned v ∧ Rows.stabRelatesSpec.post enc Try.prog Try.f7 false true false false W #[v0, v1] v W2 := by
    refine (law_run (P := Try.prog) (vs := [v0, v1]) (relates_law a0 a1 l0 l1) W rfl ?_).mono ?_
    · intro j pp v hj hv
      match j, hj, hv with
      | 0, hj, hv => simp at hj hv; subst hj; subst hv; exact .d _ _ x0
      | 1, hj, hv => simp at hj hv; subst hj; subst hv; exact .d _ _ x1
    · rintro e W2 ⟨he, own2, hE⟩
      exact ⟨_, he, law_post (P := Try.prog) (tb := 4) (by kernel_rfl) (by kernel_rfl) hW2 hE rfl rfl (by kernel_rfl) (by kernel_rfl)⟩
  exact key
theorem stabRelates_holds : Rows.StabRelatesSaid :=
  OpenClaim.holds_of_wide 7 Try.f7 rfl rfl rfl rfl rfl rfl rfl ⟨rfl, rfl, rfl, rfl, rfl⟩ rfl rfl rfl rfl rfl (by kernel_rfl) Try.func7 (by kernel_rfl)
    (of_decide_eq_true (by kernel_rfl)) (by unfold Func.isWrapper; first | (rw [if_pos (by decide +kernel)]; kernel_rfl) | (rw [if_neg (by decide +kernel)]; exact ⟨rfl, rfl⟩))
    (fun os started H enc _ => stabRelates_lifted os started H enc)
#print axioms stabRelates_holds
end Go.Proofs.Ytiapeheclfkdmaa
