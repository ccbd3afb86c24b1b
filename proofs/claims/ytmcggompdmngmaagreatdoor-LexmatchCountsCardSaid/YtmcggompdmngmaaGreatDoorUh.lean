/- A part of the proof: B2 to B2. -/
import Derived.Test.YtmcggompdmngmaaGreatDoorUc
import Derived.Test.YtmcggompdmngmaaGreatDoorU4
import Derived.Test.YtmcggompdmngmaaGreatDoorU6
import Derived.Test.YtmcggompdmngmaaGreatDoorUy
import Derived.Test.YtmcggompdmngmaaGreatDoorUm
set_option linter.all false
namespace Go.Proofs.YtmcggompdmngmaaGreatDoor
open Go.Ab Go.Ax Go.Rx
set_option maxHeartbeats 20000000
set_option maxRecDepth 100000
attribute [local irreducible] Run Ops Op1 z15 Val Tr z0d z0y NF Rel z2a z29 z5x
theorem zcb (F:List Bool) (A:List (List Arc)):(z5h F A).length=F.length:=by simp[z5h]
end Go.Proofs.YtmcggompdmngmaaGreatDoor
