/- A part of the proof: RX23. -/
import Derived.Test.YtjmbjgecfpggdaaGreatDoorRx
set_option linter.all false
set_option linter.unusedVariables false
set_option linter.unusedSimpArgs false
namespace Go.Rx
open Go
/-! how long -/
theorem zfm : ∀ (l : List (Int × Int)) (a : Int), a ≤ 1114113 → z8q a l = true → 2 * (l.length : Int) ≤ 1114113 - a
 | [], a, ha, _ => by simp; omega
 | r :: l, a, ha, h => by
  rw [z8q, Bool.and_eq_true, Bool.and_eq_true, Bool.and_eq_true, decide_eq_true_eq, decide_eq_true_eq, decide_eq_true_eq] at h
  obtain ⟨⟨⟨h1, h2⟩, h3⟩, h4⟩ := h
  have ih := zfm l (r.2 + 2) (by omega) h4
  rw [List.length_cons]; omega
theorem znp {l : List (Int × Int)} (h : zf2 l = true) : l.length ≤ 557056 := by
 rw [zf2, Bool.and_eq_true] at h
 have := zfm l 0 (by decide) h.1
 omega
/-! every code point of a text can be written -/
end Go.Rx
