/- A part of the proof: B2 to B2. -/
import Derived.Test.YtmcggompdmngmaaGreatDoorWc
import Derived.Test.YtmcggompdmngmaaGreatDoorW4
import Derived.Test.YtmcggompdmngmaaGreatDoorW6
import Derived.Test.YtmcggompdmngmaaGreatDoorWy
import Derived.Test.YtmcggompdmngmaaGreatDoorWm
set_option linter.all false
namespace Go.Proofs.YtmcggompdmngmaaGreatDoor
open Go.Ab Go.Ax Go.Rx
set_option maxHeartbeats 20000000
set_option maxRecDepth 100000
attribute [local irreducible] Run Ops Op1 z14 Val Tr z0d z0w NF Rel z1z z27 z5x
theorem zmc (F:List Bool) (A:List (List Arc)):(z6e F A).length=F.length:=by simp[z6e]
end Go.Proofs.YtmcggompdmngmaaGreatDoor
