/- A part of the proof: RX23 to RX23. -/
import Derived.Test.YthdfkabdoidjfaaGreatDoorVx
set_option linter.all false
namespace Go.Rx
open Go
theorem zhh:∀ (l:List (Int × Int)) (a:Int),a≤1114113→z8e a l=true→2*(l.length:Int)≤1114113-a
 | [],a,ha,_=>by simp;omega
 | r::l,a,ha,h=>by
  rw[z8e,zA7,zA7,zA7,zA3,zA3,zA3] at h
  obtain⟨⟨⟨h1,h2⟩,h3⟩,h4⟩:=h
  have ih:=zhh l (r.2+2) (by omega) h4
  rw[zAk];omega
theorem zu9 {l:List (Int × Int)} (h:zgc l=true):l.length≤557056:=by
 rw[zgc,zA7] at h
 have:=zhh l 0 (by decide) h.1
 omega
end Go.Rx
