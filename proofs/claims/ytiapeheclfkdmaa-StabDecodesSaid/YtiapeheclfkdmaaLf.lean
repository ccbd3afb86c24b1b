/- A law holds for every input; no condition. -/
import Derived.Test.YtiapeheclfkdmaaWo
import Derived.Test.YtiapeheclfkdmaaFd
import Derived.Test.YtiapeheclfkdmaaRows
set_option linter.all false
set_option linter.unusedVariables false
set_option linter.unusedSimpArgs false
namespace Go.Proofs.Ytiapeheclfkdmaa
open Go.Ab Go.ChangeShapes Go.WideShapes Go.ChangeAt Go.RowKit
set_option linter.unusedVariables false
set_option linter.unusedSimpArgs false
set_option maxRecDepth 100000
set_option maxHeartbeats 20000000
theorem stabDecodes_lifted (os : Os) (started : os.Started) (H : Type) (enc : TypeId × Value → H) :
    ReturnsInHanded {} Try.checked os 9 .any (Rows.stabDecodesSpec.pre6 enc Try.prog Try.f9 Rows.stabDecodesRow.domain false) (Rows.stabDecodesSpec.post enc Try.prog Try.f9 false true false false) := by
  refine returnsInHanded_of_change (C := Try.checked) (by kernel_rfl) started (by kernel_rfl) Try.func9
    (ChangeSpec.witness6 (enc := enc) (C := Try.checked) false ⟨#[], #[.slice none 0 0], []⟩ 8 (by kernel_rfl) (by kernel_rfl) (by kernel_rfl) (by kernel_rfl)) ?_
  intro W base args ds gs before hval0 hW hcnd _
  have hval : ∀ (j : Nat) t v, Try.f9.params[j]? = some t → args[j]? = some v → Value.okWide Try.prog W .any base t v := hval0
  have hW2 := hW
  obtain ⟨p, q, hA0, hV, rfl, hfz, hnd⟩ := hW
  have hA : DataW.TrodAll enc Try.prog W 0 (fun _ => true) true Try.f9.params.toList args.toList ds p := hA0
  rw [Try.params9] at hA hval
  obtain ⟨v0, vs0, d0, ds0, p0, q0, e0, rfl, rfl, h0, r0⟩ := trodAll_cons hA
  obtain ⟨rfl, rfl, rfl⟩ := trodAll_nil r0
  obtain rfl : args = #[v0] := by cases args; simp_all
  obtain ⟨a0, l0, b0, x0⟩ := in_bytes (hval 0 41 v0 rfl rfl) h0
  have key : Calls Try.prog 9 #[v0] W fun e W2 => ∃ v, e = .returned v ∧ Rows.stabDecodesSpec.post enc Try.prog Try.f9 false true false false W #[v0] v W2 := by
    refine (law_run (P := Try.prog) (vs := [v0]) (decodes_law a0 l0 b0) W rfl ?_).mono ?_
    · intro j pp v hj hv
      match j, hj, hv with
      | 0, hj, hv => simp at hj hv; subst hj; subst hv; exact .d _ _ x0
    · rintro e W2 ⟨he, own2, hE⟩
      exact ⟨_, he, law_post (P := Try.prog) (tb := 4) (by kernel_rfl) (by kernel_rfl) hW2 hE rfl rfl (by kernel_rfl) (by kernel_rfl)⟩
  exact key
theorem stabDecodes_holds : Rows.StabDecodesSaid :=
  OpenClaim.holds_of_wide 9 Try.f9 rfl rfl rfl rfl rfl rfl rfl ⟨rfl, rfl, rfl, rfl, rfl⟩ rfl rfl rfl rfl rfl (by kernel_rfl) Try.func9 (by kernel_rfl)
    (of_decide_eq_true (by kernel_rfl)) (by unfold Func.isWrapper; first | (rw [if_pos (by decide +kernel)]; kernel_rfl) | (rw [if_neg (by decide +kernel)]; exact ⟨rfl, rfl⟩))
    (fun os started H enc _ => stabDecodes_lifted os started H enc)
#print axioms stabDecodes_holds
end Go.Proofs.Ytiapeheclfkdmaa
