/- A part. -/
import Derived.Test.YtmcggompdmngmaaGreatDoorXn
import Derived.Test.YtmcggompdmngmaaGreatDoorXm
set_option linter.all false
open Go.Proofs.Tryz
namespace Go.Proofs.YtmcggompdmngmaaGreatDoor
open Go.Ab Go.Ax Go.Rx
set_option maxHeartbeats 20000000
set_option maxRecDepth 100000
attribute [local irreducible] Run Ops Op1 z0y Val Tr z0a z0u NF Rel z27 z29
structure Okn(n:Nat)(a:Au):Prop where
 fit:zqr a
 val:vAu a=0
 few:a.F.length≤n
theorem zso{a:Au}(h:AuW a):∀l∈a.A,l.length≤1114112:=fun l hl=>zlr (h.arc l hl).1 fun x hx=>by have:=(h.arc l hl).2 x hx;omega
theorem zhc{n m:Nat}{a b:Au}(ha:Okn n a)(hb:Okn m b)(hnm:(n+1)*(m+1)≤256)(op:Int)(h1:1≤op)(h4:op≤4) :
 ∃c,z0a prog 41 [.d (auD a),.d (auD b),I .i64 op] (.tup [.d (auD c),I .i64 0])∧Nrm c∧AuW c∧c.F.length≤(n+1)*(m+1)∧∀w,c.acc 0 w=(vld w&&z7w op (a.acc 0 w) (b.acc 0 w)):=by
 have wa:=zuf ha.val
 have wb:=zuf hb.val
 have fa:=ha.few
 have fb:=hb.few
 have hle:(a.F.length+1)*(b.F.length+1)≤(n+1)*(m+1):=Nat.mul_le_mul (by omega) (by omega)
 have la:a.F.length+1≤(a.F.length+1)*(b.F.length+1):=Nat.le_mul_of_pos_right _ (by omega)
 have lb:b.F.length+1≤(a.F.length+1)*(b.F.length+1):=Nat.le_mul_of_pos_left _ (by omega)
 obtain⟨x,c,x1,x2,c1,c2,c3,c4,c5⟩:=zxh wa wb op (by omega)
 have h:=ybs (N:=4456450) (n:=1114112) (m:=1114112) (zff 4456450 (by omega)) (by omega) a b op ha.fit hb.fit ha.val hb.val h1 h4 (zvl wa (by omega)) (zvl wb (by omega)) (zso wa) (zso wb) (by omega) fun y hy=>by rw[x1]at hy;cases hy;exact x2
 rw[c1,zzc]at h
 exact⟨c,h,c2,c3,by omega,c5⟩
theorem y7x:Okn 1 ybd:=⟨⟨by decide,by decide,by decide⟩,by decide,by decide⟩
theorem zx3(c:Int)(w:List Int):vld (c::w)=((decide (0≤c)&&decide (c≤1114111))&&vld w):=rfl
theorem zn7:∀w:List Int,ybd.acc 0 w=vld w
 | []=>rfl
 | c::w=>by
  rw[Au.acc_cons]
  have e:ybd.nx 0 c=if 0≤c∧c≤1114111 then 0 else -1:=by
   show nxt [(0,1114111,0)] c=_
   rw[nxt,nxt]
  rw[e,zx3]
  by_cases g:0≤c∧c≤1114111
  ·rw[zAz g,zAi g.1,zAi g.2,zn7 w];rfl
  ·rw[zAy g,Au.acc_neg _ w (by decide)]
   have:(decide (0≤c)&&decide (c≤1114111))=false:=by
    exact zD106
   rw[this];rfl
theorem zsr{n:Nat}{a:Au}(ha:Okn n a)(hn:2*(n+1)≤256) :
 ∃c,z0a prog 40 [.d (auD a)] (.tup [.d (auD c),I .i64 0])∧Nrm c∧AuW c∧c.F.length≤2*(n+1)∧∀w,c.acc 0 w=(vld w&&!a.acc 0 w):=by
 obtain⟨c,h,c1,c2,c3,c4⟩:=zhc y7x ha hn 3 (by decide) (by decide)
 refine⟨c,y4u a ⟨c,0,rfl⟩ h,c1,c2,c3,fun w=>?_⟩
 rw[c4,z7w,zAy (by decide),zAy (by decide),zAz rfl,zn7]
 cases vld w <;> rfl
attribute [local irreducible] z5w
theorem zoa(F:List Bool)(A:List (List Arc)):(z3m F A).length=F.length:=by simp[z3m]
end Go.Proofs.YtmcggompdmngmaaGreatDoor
