/- A part of the proof: G45. -/
import Derived.Test.YtjmbjgecfpggdaaGreatDoorRu
import Derived.Shelf.Strings.OnBuilder
import Derived.Shelf.Strings.Prefix
import Derived.Test.YtjmbjgecfpggdaaGreatDoorProg
import Derived.Test.YtjmbjgecfpggdaaGreatDoorMX23
import Derived.Test.YtjmbjgecfpggdaaGreatDoorRc
import Derived.Laws.Cover4
import Derived.Test.YtjmbjgecfpggdaaGreatDoorRp
import Derived.Test.YtjmbjgecfpggdaaGreatDoorRv
import Derived.Test.YtjmbjgecfpggdaaGreatDoorRb
set_option linter.all false
set_option linter.unusedVariables false
set_option linter.unusedSimpArgs false
namespace Go.Proofs.YtjmbjgecfpggdaaGreatDoor
open Go.Ab Go.Rx
set_option maxHeartbeats 20000000
set_option maxRecDepth 100000
attribute [local irreducible] Run Ops Op1 z2q Val Tr z1p z2j NF Rel z5b z5c z84
abbrev bl (s : ByteArray) : List UInt8 := s.data.toList
end Go.Proofs.YtjmbjgecfpggdaaGreatDoor
