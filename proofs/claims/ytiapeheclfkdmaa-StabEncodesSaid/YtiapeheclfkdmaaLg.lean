/- A law holds for every input; no condition. -/
import Derived.Test.YtiapeheclfkdmaaWo
import Derived.Test.YtiapeheclfkdmaaWh
import Derived.Test.YtiapeheclfkdmaaFd
import Derived.Test.YtiapeheclfkdmaaRows
set_option linter.all false
set_option linter.unusedVariables false
set_option linter.unusedSimpArgs false
namespace Go.Proofs.Ytiapeheclfkdmaa
open Go.Ab Go.ChangeShapes Go.WideShapes Go.ChangeAt Go.RowKit
set_option linter.unusedVariables false
set_option linter.unusedSimpArgs false
set_option maxRecDepth 100000
set_option maxHeartbeats 20000000
theorem stabEncodes_lifted (os : Os) (started : os.Started) (H : Type) (enc : TypeId × Value → H) :
    ReturnsInHanded {} Try.checked os 8 .any (Rows.stabEncodesSpec.pre6 enc Try.prog Try.f8 Rows.stabEncodesRow.domain false) (Rows.stabEncodesSpec.post enc Try.prog Try.f8 false true false false) := by
  refine returnsInHanded_of_change (C := Try.checked) (by kernel_rfl) started (by kernel_rfl) Try.func8
    (ChangeSpec.witness6 (enc := enc) (C := Try.checked) false ⟨#[], #[.slice none 0 0, .agg #[.int .i64 0, .int .i64 0]], []⟩ 8 (by kernel_rfl) (by kernel_rfl) (by kernel_rfl) (by kernel_rfl)) ?_
  intro W base args ds gs before hval0 hW hcnd _
  have hval : ∀ (j : Nat) t v, Try.f8.params[j]? = some t → args[j]? = some v → Value.okWide Try.prog W .any base t v := hval0
  have hW2 := hW
  obtain ⟨p, q, hA0, hV, rfl, hfz, hnd⟩ := hW
  have hA : DataW.TrodAll enc Try.prog W 0 (fun _ => true) true Try.f8.params.toList args.toList ds p := hA0
  rw [Try.params8] at hA hval
  obtain ⟨v0, vs0, d0, ds0, p0, q0, e0, rfl, rfl, h0, r0⟩ := trodAll_cons hA
  obtain ⟨v1, vs1, d1, ds1, p1, q1, rfl, rfl, rfl, h1, r1⟩ := trodAll_cons r0
  obtain ⟨rfl, rfl, rfl⟩ := trodAll_nil r1
  obtain rfl : args = #[v0, v1] := by cases args; simp_all
  obtain ⟨a0, l0, x0⟩ := in_spans (hval 0 22 v0 rfl rfl) h0
  obtain ⟨a1, x1⟩ := in_span (hval 1 35 v1 rfl rfl) h1
  have key : Calls Try.prog 8 #[v0, v1] W fun e W2 => ∃ v, e = .returned v ∧ Rows.stabEncodesSpec.post enc Try.prog Try.f8 false true false false W #[v0, v1] v W2 := by
    refine (law_run (P := Try.prog) (vs := [v0, v1]) (encodes_law a0 a1 l0) W rfl ?_).mono ?_
    · intro j pp v hj hv
      match j, hj, hv with
      | 0, hj, hv => simp at hj hv; subst hj; subst hv; exact .d _ _ x0
      | 1, hj, hv => simp at hj hv; subst hj; subst hv; exact .d _ _ x1
    · rintro e W2 ⟨he, own2, hE⟩
      exact ⟨_, he, law_post (P := Try.prog) (tb := 4) (by kernel_rfl) (by kernel_rfl) hW2 hE rfl rfl (by kernel_rfl) (by kernel_rfl)⟩
  exact key
theorem stabEncodes_holds : Rows.StabEncodesSaid :=
  OpenClaim.holds_of_wide 8 Try.f8 rfl rfl rfl rfl rfl rfl rfl ⟨rfl, rfl, rfl, rfl, rfl⟩ rfl rfl rfl rfl rfl (by kernel_rfl) Try.func8 (by kernel_rfl)
    (of_decide_eq_true (by kernel_rfl)) (by unfold Func.isWrapper; first | (rw [if_pos (by decide +kernel)]; kernel_rfl) | (rw [if_neg (by decide +kernel)]; exact ⟨rfl, rfl⟩))
    (fun os started H enc _ => stabEncodes_lifted os started H enc)
#print axioms stabEncodes_holds
end Go.Proofs.Ytiapeheclfkdmaa
