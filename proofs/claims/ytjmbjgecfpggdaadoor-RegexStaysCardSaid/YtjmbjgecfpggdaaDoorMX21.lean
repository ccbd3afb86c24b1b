/- A part of the proof: RX21. -/
import Derived.Test.YtjmbjgecfpggdaaDoorMX20
set_option linter.all false
set_option linter.unusedVariables false
set_option linter.unusedSimpArgs false
namespace Go.Rx
open Go
set_option linter.unusedVariables false
set_option linter.unusedSimpArgs false
theorem unL_fuel : ∀ (f g : Nat) (l : List Nat), l.length ≤ f → l.length ≤ g → unL f l = unL g l
  | f, g, [], _, _ => by rw [unL_nil, unL_nil]
  | 0, g, b :: r, h, _ => by simp at h
  | f + 1, 0, b :: r, _, h => by simp at h
  | f + 1, g + 1, b :: r, h1, h2 => by
    have hw := dcL_w (l := b :: r) (by simp)
    have hlen : (b :: r).length = r.length + 1 := rfl
    rw [unL, unL, unL_fuel f g _ (by rw [List.length_drop]; omega) (by rw [List.length_drop]; omega)]
theorem rst_pos (s : ByteArray) : ∀ (f i : Nat), s.size - i ≤ f → ∀ u ∈ rst s i, 1 ≤ u.n
  | 0, i, h, u, hu => by rw [rst_ge (by omega)] at hu; simp at hu
  | f + 1, i, h, u, hu => by
    by_cases hi : i < s.size
    · have hw := dec_w s i hi
      rw [rst_lt hi, List.mem_cons] at hu
      rcases hu with rfl | hu
      · exact hw.1
      · exact rst_pos s f _ (by omega) u hu
    · rw [rst_ge (by omega)] at hu; simp at hu
section
variable {vs : Int → List Int} {s : ByteArray}
end
end Go.Rx
