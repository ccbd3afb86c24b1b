/- A part of the proof: B1 to B2. -/
import Derived.Test.YthdfkabdoidjfaaGreatDoorVn
import Derived.Test.YthdfkabdoidjfaaGreatDoorV6
import Derived.Test.YthdfkabdoidjfaaGreatDoorVm
import Derived.Test.YthdfkabdoidjfaaGreatDoorV1
import Derived.Test.YthdfkabdoidjfaaGreatDoorVr
import Derived.Test.YthdfkabdoidjfaaGreatDoorVz
import Derived.Test.YthdfkabdoidjfaaGreatDoorVc
import Derived.Test.YthdfkabdoidjfaaGreatDoorVx
import Derived.Test.YthdfkabdoidjfaaGreatDoorVy
import Derived.Test.YthdfkabdoidjfaaGreatDoorVb
import Derived.ArgAppend
import Derived.Test.YthdfkabdoidjfaaGreatDoorV4
import Derived.Test.YthdfkabdoidjfaaGreatDoorV3
import Derived.Test.YthdfkabdoidjfaaGreatDoorV2
set_option linter.all false
namespace Go.Proofs.YthdfkabdoidjfaaGreatDoor
open Go.Ab Go.Ax Go.Rx
set_option maxHeartbeats 20000000
set_option maxRecDepth 100000
attribute [local irreducible] Run Ops Op1 z2a Val Tr z0y z1x NF Rel z3i z3g
theorem zg6 {a:Au} (h:AuW a):∀ l∈a.A,l.length≤1114112:=fun l hl=>zjq (h.arc l hl).1 fun x hx=>by have:=(h.arc l hl).2 x hx;omega
attribute [local irreducible] zac
theorem zxq (s:ByteArray):vld (cps s 0)=true:=by
 rw[vld,cps,List.all_map,List.all_eq_true]
 intro u hu
 have:=zdl.1 (zrn s _ 0 (zAj _) u hu)
 simp only[Function.comp,zA7,zA3]
 omega
theorem zxz {a:Au} (h:vAu a=0) (s:ByteArray):zzf a s=(zuc s&&a.acc 0 (cps s 0)):=by
 rw[zzf]
 cases hv:zuc s with
 | true=>rw[zAz ⟨h,rfl⟩];rfl
 | false=>rw[zAy (fun g=>by cases g.2)];rfl
theorem y0n {a:Au} (h:vAu a=0):∀ l∈a.A,l.length≤4611686018427387904:=fun l hl=>by have:=zg6 (zsv h) l hl;omega
noncomputable def ztc (a:Au):Bool:=!((z56 a.F a.A).getD 0 false)
theorem zvd {a:Au} (h:AuW a):ztc a=true↔∀ w,a.acc 0 w=false:=by
 have h1:=zck h 0
 have h2:=z8s (F:=a.F) (A:=a.A) h.pos
 rw[ztc,zA6,← Bool.not_eq_true,h2,h1]
 rfl
theorem zlu (F:List Bool) (A:List (List Arc)):(z56 F A).length=F.length:=by simp[z56]
theorem y4z {a:Au} (h:AuW a):(z56 a.F a.A)[(0:Int).toNat]? =some ((z56 a.F a.A).getD 0 false):=by
 have hp:=h.pos
 have hl:=zlu a.F a.A
 show (z56 a.F a.A)[0]? =_
 rw[List.getD,zA0 (by omega)];rfl
end Go.Proofs.YthdfkabdoidjfaaGreatDoor
