/- A part of the proof: L33 to L35. -/
import Derived.Test.YtmcggompdmngmaaGreatDoorYc
import Derived.Test.YtmcggompdmngmaaGreatDoorYe
import Derived.Test.YtmcggompdmngmaaGreatDoorYD
import Derived.Test.YtmcggompdmngmaaGreatDoorYd
import Derived.Test.YtmcggompdmngmaaGreatDoorYo
import Derived.Test.YtmcggompdmngmaaGreatDoorYv
import Derived.Test.YtmcggompdmngmaaGreatDoorYw
import Derived.Test.YtmcggompdmngmaaGreatDoorYz
import Derived.Test.YtmcggompdmngmaaGreatDoorYC
set_option linter.all false
namespace Go.Proofs.YtmcggompdmngmaaGreatDoor
open Go.Ab Go.Rx Go.Lx Go.Ax
set_option maxHeartbeats 20000000
set_option maxRecDepth 100000
attribute [local irreducible] Run Ops Op1 z0u Val Tr z09 z0q NF Rel z1v z1u z5p
structure OkI (l:List Int):Prop where
 len:l.length≤4096
 asc:ycp l
 rng:∀ x∈l,0≤x∧x≤2147483647
theorem y3r (f:Nat→Bool) {n:Nat} (hn:n≤4096):OkI (zfe f n) :=
 ⟨by have:=zyt f n;omega,zr4 f n,fun x hx=>by
   obtain⟨i,hi,rfl⟩:=List.mem_map.1 hx
   have:=(zt3.1 hi).1
   omega⟩
end Go.Proofs.YtmcggompdmngmaaGreatDoor
