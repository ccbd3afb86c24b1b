/- A part of the proof: A1, second half. -/
import Derived.Test.YthdfkabdoidjfaaGreatDoorUc
import Derived.Test.YthdfkabdoidjfaaGreatDoorUt
import Derived.Test.YthdfkabdoidjfaaGreatDoorUy
import Derived.Test.YthdfkabdoidjfaaGreatDoorUr
import Derived.Test.YthdfkabdoidjfaaGreatDoorUz
import Derived.Test.YthdfkabdoidjfaaGreatDoorUx
import Derived.Test.YthdfkabdoidjfaaGreatDoorUv
import Derived.Test.YthdfkabdoidjfaaGreatDoorUd
set_option linter.all false
namespace Go.Proofs.YthdfkabdoidjfaaGreatDoor
open Go.Ab Go.Ax
set_option maxHeartbeats 20000000
set_option maxRecDepth 100000
attribute [local irreducible] Run Ops Op1 z1d Val Tr z08 z13 NF Rel z2h z2g
theorem z4g (a:Au) (hf:z57 a):z08 Tryz.prog 17 [.d (auD a)] (I .i64 (vAu a)):=by
 obtain⟨F,A⟩:=a
 obtain⟨f1,f2,f3⟩:=hf
 simp only at f1 f2 f3
 refine z0g fun H=>?_
 refine z03 Tryz.func17 (by kernel_rfl) rfl (by simp) ?_
 dsimp only[Tryz.f17]
 rw[vAu]
 simp only
 by_cases h1:256<F.length
 · rw[zAz h1]
   all_goals exact zD87
 rw[zAy h1]
 by_cases h2:F.length=0∨A.length≠F.length
 · rw[zAz h2]
   all_goals exact zD87
 rw[zAy h2]
 have e1:A.length=F.length:=by omega
 have e2:0<F.length:=by omega
 repeat' (first|(apply z0w;(refine z07 z2b ?_))|refine stq ?_|refine fk (fun _=>?_) (fun _=>?_))
 all_goals try (exfalso;simp only[zA4] at *;omega)
 refine z0a ?_
 refine z00 (z0p (fun q:Nat=>⟨105,[(1,.ptr (0,1) 0),(3,I .i64 F.length),(23,.d (.slice (A.map z25))),(24,I .i64 A.length),(25,I .i64 (q:Nat))],[(1,.box [.d (z56 F),.d (.slice (A.map z25))])],H⟩) (fun q=>q≤A.length∧z9n F.length (A.drop q)=z9n F.length A) (fun q=>A.length-q) ?_ 0 ⟨zAf _,rfl⟩) rfl rfl
 rintro i ⟨i1,i2⟩ ih
 by_cases hlt:i<A.length
 · obtain⟨l,hl⟩:∃ l,A[i]? =some l:=⟨_,zA0 hlt⟩
   have hlm:=f3 l (zA2 hl)
   rw[drop_cons hl,z9n] at i2
   repeat' (first|(apply z01;(refine z04 (z0k (ys:=A.map z25) rfl (idx hl)) rfl rfl ?_))|refine stq ?_|refine fk (fun _=>?_) (fun _=>?_))
   all_goals try (exfalso;omega)
   refine z0a ?_
   refine z00 (z0p (fun q:Nat=>⟨105,[(1,.ptr (0,1) 0),(3,I .i64 F.length),(23,.d (.slice (A.map z25))),(24,I .i64 A.length),(25,I .i64 (i:Nat)),(5,.d (z7t l)),(29,.d (z7t l)),(30,I .i64 l.length),(31,I .i64 (q:Nat))],[(1,.box [.d (z56 F),.d (.slice (A.map z25))])],H⟩) (fun q=>q≤l.length∧zfu F.length (zlq l q) (l.drop q)=zfu F.length none l∧∀ y,zlq l q=some y→0≤y.1∧y.1≤y.2.1∧y.2.1≤1114111) (fun q=>l.length-q) ?_ 0 ⟨zAf _,rfl,by intro y hy;cases hy⟩) rfl rfl
   rintro k ⟨k1,k2,k3⟩ ihk
   by_cases hk:k<l.length
   · obtain⟨x,hx⟩:∃ x,l[k]? =some x:=⟨_,zA0 hk⟩
     have hpk:zlq l (k+1)=some x:=by rw[zlq,zAy (by omega)];exact hx
     rw[drop_cons hx,z8z] at k2
     by_cases hb:zrj F.length x=true
     · rw[zAz hb] at k2
       rw[← k2,zAz (by decide)] at i2
       rw[← i2]
       simp only[zrj,zAu,zA3] at hb
       repeat' (first|(apply z01;(refine z04 (z0k (ys:=l.map z1k) rfl (idx hx)) rfl rfl ?_))|refine stq ?_|refine fk (fun _=>?_) (fun _=>?_)|(refine z19 (fun hg=>?_) (fun hg=>?_)<;> simp only[hg] <;> (try simp only[zA3,zA5,zA6,zA8] at hg)))
       all_goals exact zD107
     · rw[zAy hb] at k2
       simp only[zrj,zAu,zA3,not_or] at hb
       cases k with
       | zero =>
        exact zD42
       | succ k =>
        obtain⟨y,hy⟩:∃ y,l[k]? =some y:=⟨_,zA0 (by omega)⟩
        have hpy:zlq l (k+1)=some y:=by rw[zlq,zAy (by omega)];exact hy
        have hyi:l[(((k+1:Nat):Int)-1).toNat]? =some y:=by rw[show (((k+1:Nat):Int)-1).toNat=k by omega];exact hy
        have hyr:=k3 y hpy
        rw[hpy] at k2
        simp only at k2
        by_cases ho:zrg y x=true
        · rw[zAz ho] at k2
          rw[← k2,zAz (by decide)] at i2
          rw[← i2]
          simp only[zrg,zAu,zA7,zA3] at ho
          repeat' (first|(apply z01;(refine z04 (z0k (ys:=l.map z1k) rfl (idx hx)) rfl rfl ?_))|(apply z02;(refine z09 (z0k (ys:=l.map z1k) rfl (z4k hyi)) rfl rfl ?_))|(apply z0z;(refine z09 (z16 (z8h (by omega) (by omega))) rfl rfl ?_))|refine stq ?_|refine fk (fun _=>?_) (fun _=>?_)|(refine z19 (fun hg=>?_) (fun hg=>?_)<;> simp only[hg] <;> (try simp only[zA3,zA5,zA6,zA8] at hg)))
          all_goals exact zD107
        · exact zD19
   · exact zD65
 · obtain rfl:i=A.length:=by omega
   rw[zAs,z9n] at i2
   rw[← i2]
   repeat' (first|refine stq ?_|refine fk (fun _=>?_) (fun _=>?_))
   all_goals exact zD107
end Go.Proofs.YthdfkabdoidjfaaGreatDoor
