/- A part of the proof: B2 to B2. -/
import Derived.Test.YtmcggompdmngmaaGreatDoorVc
import Derived.Test.YtmcggompdmngmaaGreatDoorV4
import Derived.Test.YtmcggompdmngmaaGreatDoorV6
import Derived.Test.YtmcggompdmngmaaGreatDoorVy
import Derived.Test.YtmcggompdmngmaaGreatDoorVm
set_option linter.all false
namespace Go.Proofs.YtmcggompdmngmaaGreatDoor
open Go.Ab Go.Ax Go.Rx
set_option maxHeartbeats 20000000
set_option maxRecDepth 100000
attribute [local irreducible] Run Ops Op1 z13 Val Tr z0d z0w NF Rel z2a z2b z6r
theorem zln (F:List Bool) (A:List (List Arc)):(z5y F A).length=F.length:=by simp[z5y]
end Go.Proofs.YtmcggompdmngmaaGreatDoor
