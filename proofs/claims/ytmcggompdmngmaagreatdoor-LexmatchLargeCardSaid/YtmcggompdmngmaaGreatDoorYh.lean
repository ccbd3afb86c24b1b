/- A part of the proof: B2 to B2. -/
import Derived.Test.YtmcggompdmngmaaGreatDoorYc
import Derived.Test.YtmcggompdmngmaaGreatDoorY4
import Derived.Test.YtmcggompdmngmaaGreatDoorY6
import Derived.Test.YtmcggompdmngmaaGreatDoorYy
import Derived.Test.YtmcggompdmngmaaGreatDoorYm
set_option linter.all false
namespace Go.Proofs.YtmcggompdmngmaaGreatDoor
open Go.Ab Go.Ax Go.Rx
set_option maxHeartbeats 20000000
set_option maxRecDepth 100000
attribute [local irreducible] Run Ops Op1 z0u Val Tr z09 z0q NF Rel z1v z1u z5p
theorem zls (F:List Bool) (A:List (List Arc)):(z6a F A).length=F.length:=by simp[z6a]
end Go.Proofs.YtmcggompdmngmaaGreatDoor
