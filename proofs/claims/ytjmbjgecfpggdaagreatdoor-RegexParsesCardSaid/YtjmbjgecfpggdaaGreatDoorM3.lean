/- A part of the proof: Z3. -/
import Derived.Test.YtjmbjgecfpggdaaGreatDoorM2
import Derived.Test.YtjmbjgecfpggdaaGreatDoorRc
set_option linter.all false
set_option linter.unusedVariables false
set_option linter.unusedSimpArgs false
namespace Go.Proofs.YtjmbjgecfpggdaaGreatDoor
open Go.Ab Go.Rx
set_option maxHeartbeats 20000000
set_option maxRecDepth 100000
attribute [local irreducible] Run Ops Op1 z2q Val Tr z1p z2j NF Rel z5b z5c
theorem zgy (op mn mx : Int) (rs : List Rg) (ks : List Rx) : Drx (.mk op mn mx rs ks) = .agg (rx5 op mn mx rs ks) := congrArg D.agg (z1v op mn mx rs ks)
end Go.Proofs.YtjmbjgecfpggdaaGreatDoor
