/- A part of the proof: RX20. -/
import Derived.Test.YtjmbjgecfpggdaaDoorRx
set_option linter.all false
set_option linter.unusedVariables false
set_option linter.unusedSimpArgs false
namespace Go.Rx
set_option linter.unusedVariables false
set_option linter.unusedSimpArgs false
abbrev rpt (mn mx : Int) (e : Rx) : Rx := .mk 4 mn mx [] [e]
theorem rep_mt {ok : Int → List (Int × Int) → Bool} {e : Rx} {mn mx : Int} (h : val (rpt mn mx e) = 0) (w : List Int) : mt ok (rpt mn mx e) w = true ↔ ∃ k : Nat, mn ≤ k ∧ (mx = -1 ∨ (k : Int) ≤ mx) ∧ pow (L ok e) k w := by
  rw [mt_spec ok _ (val_vns h), L]
  dsimp only
  rw [if_neg (by decide), if_neg (by decide), if_neg (by decide), L1]
theorem mtS_iff (vs : Int → List Int) (e : Rx) (s : ByteArray) : mtS vs e s = true ↔ val e = 0 ∧ vldS s = true ∧ mt (okV vs) e (runes s) = true := by
  rw [mtS, Bool.and_eq_true, Bool.and_eq_true, decide_eq_true_eq, and_assoc]
end Go.Rx
