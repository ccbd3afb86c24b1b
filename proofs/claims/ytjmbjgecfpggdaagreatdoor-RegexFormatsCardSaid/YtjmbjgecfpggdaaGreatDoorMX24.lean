/- A part of the proof: RX24. -/
import Derived.Test.YtjmbjgecfpggdaaGreatDoorRx
import Derived.Test.YtjmbjgecfpggdaaGreatDoorMX23
set_option linter.all false
set_option linter.unusedVariables false
set_option linter.unusedSimpArgs false
namespace Go.Rx
open Go
theorem zlp {e : Rx} (hv : val e = 0) (hw : wrt e = true) (m : Nat) (w : Int) (h0 : w = 0) (hvn : vns e = true) : zr0 (txE (fm e w)) = true ∧ z7g m (rst (txE (fm e w)) 0) = (e, 0, 0) := by
 subst h0
 have hcv := zwf.1 e hvn hw 0
 exact ⟨zqd hcv, by rw [zlq hcv]; exact zj1 e hv hw m⟩
end Go.Rx
