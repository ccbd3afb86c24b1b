/- A part of the proof: G29 to G29. -/
import Derived.Test.YthdfkabdoidjfaaGreatDoorUc
import Derived.Test.YthdfkabdoidjfaaGreatDoorUq
import Derived.Test.YthdfkabdoidjfaaGreatDoorUr
import Derived.Test.YthdfkabdoidjfaaGreatDoorUp
import Derived.Test.YthdfkabdoidjfaaGreatDoorUx
set_option linter.all false
namespace Go.Proofs.YthdfkabdoidjfaaGreatDoor
open Go.Ab Go.Rx
set_option maxHeartbeats 20000000
set_option maxRecDepth 100000
attribute [local irreducible] Run Ops Op1 z1d Val Tr z08 z13 NF Rel z2h z2g zb9
theorem y12 (l:List Rg) (c:Int):inB l c=inR l c:=rfl
theorem zyl:∀ (l:List U) (i:Nat),(unF i l).all okU=l.all y8g
 | [],i=>rfl
 | u::l,i=>by
  rw[unF,List.all_cons,List.all_cons,zyl l]
  congr 1
  simp only[okU,y8g]
  congr 1
  rw[decide_eq_decide];omega
theorem zxp (S:Nat):∀ (l:List Nat) (i acc:Nat),acc<2 ^ 64→(∀ x∈l,x<2 ^ 64)→nxF S i acc l<2 ^ 64
 | [],i,acc,h,_=>h
 | x::l,i,acc,h,hl=>by
  rw[nxF]
  refine zxp S l _ _ ?_ (fun y hy=>hl y (by simp[hy]))
  split
  · exact Nat.or_lt_two_pow h (hl x (by simp))
  · exact h
end Go.Proofs.YthdfkabdoidjfaaGreatDoor
