/- A part of the proof: A1 to A4. -/
import Derived.Test.YthdfkabdoidjfaaGreatDoorQt
import Derived.Test.YthdfkabdoidjfaaGreatDoorQy
import Derived.Test.YthdfkabdoidjfaaGreatDoorQc
import Derived.Test.YthdfkabdoidjfaaGreatDoorQr
import Derived.Test.YthdfkabdoidjfaaGreatDoorQz
import Derived.Test.YthdfkabdoidjfaaGreatDoorQx
import Derived.Test.YthdfkabdoidjfaaGreatDoorQv
set_option linter.all false
namespace Go.Proofs.YthdfkabdoidjfaaGreatDoor
open Go.Ab Go.Ax
set_option maxHeartbeats 20000000
set_option maxRecDepth 100000
attribute [local irreducible] Run Ops Op1 z2i Val Tr z0z z27 NF Rel z3r z3s
abbrev z2x (x:Arc):List D:=[z1v x.1,z1v x.2.1,z1x x.2.2]
abbrev z9o (l:List Arc):D:=.slice (l.map z2x)
abbrev z4n (l:List Arc):List D:=[z9o l]
abbrev z7s (F:List Bool):D:=.slice (F.map fun b=>[z8c b])
abbrev auc (a:Au):List D:=[z7s a.F,.slice (a.A.map z4n)]
abbrev auD (a:Au):D:=.agg (auc a)
def z9f (a:Au):Prop:=a.F.length≤9223372036854775807∧a.A.length≤9223372036854775807∧∀ l∈a.A,l.length≤9223372036854775807
def zmh (l:List Arc) (i:Nat):Option Arc:=if i=0 then none else l[i-1]?
theorem zaz (a:Au) (hf:z9f a):z0z Tryz.prog 16 [.d (auD a)] (I .i64 (vAu a)):=by
 obtain⟨F,A⟩:=a
 obtain⟨f1,f2,f3⟩:=hf
 simp only at f1 f2 f3
 refine z1l fun H=>?_
 refine z0m Tryz.func16 (by kernel_rfl) rfl (by simp) ?_
 dsimp only[Tryz.f16]
 rw[vAu]
 simp only
 by_cases h1:256<F.length
 · rw[zAz h1]
   all_goals exact zD34
 rw[zAy h1]
 by_cases h2:F.length=0∨A.length≠F.length
 · rw[zAz h2]
   all_goals exact zD34
 rw[zAy h2]
 have e1:A.length=F.length:=by omega
 have e2:0<F.length:=by omega
 repeat' (first|(apply z07;(first|refine z0p ?_| (apply z0a;(refine z02 z1m rfl rfl ?_))|(apply z0e;(refine z02 z0s rfl rfl ?_))|(apply z14;(refine z02 (z1j rfl) rfl rfl ?_))|(apply z1y;(refine z0b z2e ?_))))|(apply z08;(first|refine z0o ?_|apply z09|refine z1w ?_| refine z2m (fun _=>?_) (fun _=>?_)))|(apply z05;(first|apply z06|apply z00|refine z1d ?_| apply z04|apply z01|apply z03|refine z0f (fun _=>?_) (fun _=>?_)| refine z4i rfl (fun _=>?_) (fun _=>?_))))
 all_goals try (exfalso;simp only[zA4] at *;omega)
 refine z16 ?_
 refine z0c (z1u (fun q:Nat=>⟨99,[(1,.ptr (0,1) 0),(3,I .i64 F.length),(25,.d (.slice (A.map z4n))),(26,I .i64 A.length),(27,I .i64 (q:Nat))],[(1,.box [.d (z7s F),.d (.slice (A.map z4n))])],H⟩) (fun q=>q≤A.length∧z9y F.length (A.drop q)=z9y F.length A) (fun q=>A.length-q) ?_ 0 ⟨zAf _,rfl⟩) rfl rfl
 rintro i ⟨i1,i2⟩ ih
 by_cases hlt:i<A.length
 · obtain⟨l,hl⟩:∃ l,A[i]? =some l:=⟨_,zA0 hlt⟩
   have hlm:=f3 l (zA2 hl)
   rw[drop_cons hl,z9y] at i2
   repeat' (first|(apply z07;(first|refine z0p ?_| (apply z0a;(refine z02 z22 rfl rfl ?_))|(apply z0i;(refine z02 (z0v (ys:=A.map z4n) rfl (idx hl)) rfl rfl ?_))|(apply z14;(refine z02 (z1j rfl) rfl rfl ?_))))|(apply z08;(first|refine z0o ?_|apply z09))|(apply z05;(first|apply z06|apply z00|apply z04|apply z01|refine z0f (fun _=>?_) (fun _=>?_)| refine z0h ?_)))
   all_goals try (exfalso;omega)
   refine z16 ?_
   refine z0c (z1u (fun q:Nat=>⟨99,[(1,.ptr (0,1) 0),(3,I .i64 F.length),(25,.d (.slice (A.map z4n))),(26,I .i64 A.length),(27,I .i64 (i:Nat)),(5,.d (z9o l)),(31,.d (z9o l)),(32,I .i64 l.length),(33,I .i64 (q:Nat))],[(1,.box [.d (z7s F),.d (.slice (A.map z4n))])],H⟩) (fun q=>q≤l.length∧zgl F.length (zmh l q) (l.drop q)=zgl F.length none l∧∀ y,zmh l q=some y→0≤y.1∧y.1≤y.2.1∧y.2.1≤1114111) (fun q=>l.length-q) ?_ 0 ⟨zAf _,rfl,by intro y hy;cases hy⟩) rfl rfl
   rintro k ⟨k1,k2,k3⟩ ihk
   by_cases hk:k<l.length
   · obtain⟨x,hx⟩:∃ x,l[k]? =some x:=⟨_,zA0 hk⟩
     have hpk:zmh l (k+1)=some x:=by rw[zmh,zAy (by omega)];exact hx
     rw[drop_cons hx,zag] at k2
     by_cases hb:zsn F.length x=true
     · rw[zAz hb] at k2
       rw[← k2,zAz (by decide)] at i2
       rw[← i2]
       simp only[zsn,zAu,zA3] at hb
       repeat' (first|(apply z07;(first|refine z0p ?_| (apply z0a;(first|refine z02 z1m rfl rfl ?_| refine z02 z2o rfl rfl ?_))|(apply z0e;(refine z02 z0s rfl rfl ?_))|(apply z0i;(refine z02 (z0v (ys:=l.map z2x) rfl (idx hx)) rfl rfl ?_))|(apply z0n;(refine z02 (z0r z0y) rfl rfl ?_))|(apply z0d;(refine z2g ?_))|(apply z0k;(refine z0b z2q ?_))))|(apply z08;(first|refine z0o ?_|apply z09))|(apply z05;(first|apply z06|apply z00|refine z0w ?_| apply z04|apply z01|apply z23|apply z03|refine z0f (fun _=>?_) (fun _=>?_)| refine z0h ?_))|(apply z25;(first|(apply z0t;refine z1b mix ?_)|refine z1z ?_| refine z29 ?_| (apply z0j;(refine z0g z1m rfl rfl ?_))|(apply z13;(refine z0g z0s rfl rfl ?_))|(apply z1q;(refine z0g (z1g z0y) rfl rfl ?_))|(refine z0x rfl rfl (fun hg=>?_) (fun hg=>?_) <;> simp only[hg] <;> (try simp only[zA3,zA5,zA6,zA8] at hg)))))
       all_goals exact zD91
     · rw[zAy hb] at k2
       simp only[zsn,zAu,zA3,not_or] at hb
       cases k with
       | zero =>
        rw[show zmh l 0=none from rfl] at k2
        simp only at k2
        have ihk':=ihk 1 ⟨by omega,by rw[hpk];exact k2,fun y hy=>by rw[hpk] at hy;cases hy;omega⟩ (by omega)
        repeat' (first|(apply z07;(first|refine z0p ?_| (apply z0a;(first|refine z02 z1m rfl rfl ?_| refine z02 z2o rfl rfl ?_))|(apply z0e;(refine z02 z0s rfl rfl ?_))|(apply z0i;(refine z02 (z0v (ys:=l.map z2x) rfl (idx hx)) rfl rfl ?_))|(apply z0n;(refine z02 (z0r z0y) rfl rfl ?_))|(apply z0d;(refine z2g ?_))|(apply z0k;(refine z0b z2q ?_))))|(apply z08;(first|refine z0o ?_|apply z09))|(apply z05;(first|apply z06|apply z00|refine z0w ?_| apply z04|apply z01|apply z23|apply z03|refine z0f (fun _=>?_) (fun _=>?_)| refine z0h ?_))|(apply z25;(first|(apply z0t;refine z1b mix ?_)|refine z1z ?_| refine z29 ?_)))
        all_goals exact zD83
       | succ k =>
        obtain⟨y,hy⟩:∃ y,l[k]? =some y:=⟨_,zA0 (by omega)⟩
        have hpy:zmh l (k+1)=some y:=by rw[zmh,zAy (by omega)];exact hy
        have hyi:l[(((k+1:Nat):Int)-1).toNat]? =some y:=by rw[show (((k+1:Nat):Int)-1).toNat=k by omega];exact hy
        have hyr:=k3 y hpy
        rw[hpy] at k2
        simp only at k2
        by_cases ho:zoz y x=true
        · rw[zAz ho] at k2
          rw[← k2,zAz (by decide)] at i2
          rw[← i2]
          simp only[zoz,zAu,zA7,zA3] at ho
          repeat' (first|(apply z07;(first|refine z0p ?_| (apply z0a;(first|refine z02 z1m rfl rfl ?_| refine z02 z2o rfl rfl ?_))|(apply z0e;(refine z02 z0s rfl rfl ?_))|(apply z0i;(refine z02 (z0v (ys:=l.map z2x) rfl (idx hx)) rfl rfl ?_))|(apply z0n;(refine z02 (z0r z0y) rfl rfl ?_))|(apply z0d;(refine z2g ?_))|(apply z0k;(refine z0b z2q ?_))))|(apply z08;(first|refine z0o ?_|apply z09))|(apply z05;(first|apply z06|apply z00|refine z0w ?_| apply z04|apply z01|apply z23|apply z03|refine z0f (fun _=>?_) (fun _=>?_)| refine z0h ?_))|(apply z25;(first|(apply z0t;refine z1b mix ?_)|refine z1z ?_| refine z29 ?_| (apply z0j;(first|refine z0g z1m rfl rfl ?_| refine z0g z22 rfl rfl ?_))|(apply z13;(first|refine z0g z0s rfl rfl ?_| refine z0g (z6h rfl rfl) rfl rfl ?_))|(apply z0l;(refine z0g (z0v (ys:=l.map z2x) rfl (z5o hyi)) rfl rfl ?_))|(apply z1q;(first|refine z0g (z0r (z9j (by omega) (by omega))) rfl rfl ?_| refine z0g (z1g z0y) rfl rfl ?_))|(refine z0x rfl rfl (fun hg=>?_) (fun hg=>?_) <;> simp only[hg] <;> (try simp only[zA3,zA5,zA6,zA8] at hg)))))
          all_goals exact zD91
        · rw[zAy ho] at k2
          simp only[zoz,zAu,zA7,zA3,not_or,not_and] at ho
          have ihk':=ihk (k+2) ⟨by omega,by rw[hpk];exact k2,fun y hy=>by rw[hpk] at hy;cases hy;omega⟩ (by omega)
          repeat' (first|(apply z07;(first|refine z0p ?_| (apply z0a;(first|refine z02 z1m rfl rfl ?_| refine z02 z2o rfl rfl ?_))|(apply z0e;(refine z02 z0s rfl rfl ?_))|(apply z0i;(refine z02 (z0v (ys:=l.map z2x) rfl (idx hx)) rfl rfl ?_))|(apply z0n;(refine z02 (z0r z0y) rfl rfl ?_))|(apply z0d;(refine z2g ?_))|(apply z0k;(refine z0b z2q ?_))))|(apply z08;(first|refine z0o ?_|apply z09))|(apply z05;(first|apply z06|apply z00|refine z0w ?_| apply z04|apply z01|apply z23|apply z03|refine z0f (fun _=>?_) (fun _=>?_)| refine z0h ?_))|(apply z25;(first|(apply z0t;refine z1b mix ?_)|refine z1z ?_| refine z29 ?_| (apply z0j;(first|refine z0g z1m rfl rfl ?_| refine z0g z22 rfl rfl ?_))|(apply z13;(first|refine z0g z0s rfl rfl ?_| refine z0g (z6h rfl rfl) rfl rfl ?_))|(apply z0l;(refine z0g (z0v (ys:=l.map z2x) rfl (z5o hyi)) rfl rfl ?_))|(apply z1q;(first|refine z0g (z0r (z9j (by omega) (by omega))) rfl rfl ?_| refine z0g (z1g z0y) rfl rfl ?_))|(refine z0x rfl rfl (fun hg=>?_) (fun hg=>?_) <;> simp only[hg] <;> (try simp only[zA3,zA5,zA6,zA8] at hg)))))
          all_goals exact zD83
   · exact zD45
 · obtain rfl:i=A.length:=by omega
   rw[zAs,z9y] at i2
   rw[← i2]
   repeat' (first|(apply z07;(refine z0p ?_))|(apply z08;(first|refine z0o ?_|apply z09))|(apply z05;(first|apply z06|apply z00|apply z04|apply z01|refine z0f (fun _=>?_) (fun _=>?_)| refine z0h ?_)))
   all_goals exact zD91
theorem z8v (a:Au) (hf:z9f a):z0z Tryz.prog 17 [.d (auD a)] (I .i64 (vAu a)):=by
 obtain⟨F,A⟩:=a
 obtain⟨f1,f2,f3⟩:=hf
 simp only at f1 f2 f3
 refine z1l fun H=>?_
 refine z0m Tryz.func17 (by kernel_rfl) rfl (by simp) ?_
 dsimp only[Tryz.f17]
 rw[vAu]
 simp only
 by_cases h1:256<F.length
 · rw[zAz h1]
   all_goals exact zD35
 rw[zAy h1]
 by_cases h2:F.length=0∨A.length≠F.length
 · rw[zAz h2]
   all_goals exact zD35
 rw[zAy h2]
 have e1:A.length=F.length:=by omega
 have e2:0<F.length:=by omega
 repeat' (first|(apply z07;(first|refine z0p ?_| (apply z0a;(refine z02 z1m rfl rfl ?_))|(apply z0e;(refine z02 z0s rfl rfl ?_))|(apply z14;(refine z02 (z1j rfl) rfl rfl ?_))|(apply z1y;(refine z0b z2e ?_))))|(apply z08;(first|refine z0o ?_|apply z09|refine z1w ?_| refine z2m (fun _=>?_) (fun _=>?_)))|(apply z05;(first|apply z06|apply z00|refine z1d ?_| apply z04|apply z01|refine z0f (fun _=>?_) (fun _=>?_)| refine z4i rfl (fun _=>?_) (fun _=>?_))))
 all_goals try (exfalso;simp only[zA4] at *;omega)
 refine z16 ?_
 refine z0c (z1u (fun q:Nat=>⟨105,[(1,.ptr (0,1) 0),(3,I .i64 F.length),(23,.d (.slice (A.map z4n))),(24,I .i64 A.length),(25,I .i64 (q:Nat))],[(1,.box [.d (z7s F),.d (.slice (A.map z4n))])],H⟩) (fun q=>q≤A.length∧z9y F.length (A.drop q)=z9y F.length A) (fun q=>A.length-q) ?_ 0 ⟨zAf _,rfl⟩) rfl rfl
 rintro i ⟨i1,i2⟩ ih
 by_cases hlt:i<A.length
 · obtain⟨l,hl⟩:∃ l,A[i]? =some l:=⟨_,zA0 hlt⟩
   have hlm:=f3 l (zA2 hl)
   rw[drop_cons hl,z9y] at i2
   repeat' (first|(apply z07;(first|refine z0p ?_| (apply z0a;(refine z02 z22 rfl rfl ?_))|(apply z0i;(refine z02 (z0v (ys:=A.map z4n) rfl (idx hl)) rfl rfl ?_))|(apply z14;(refine z02 (z1j rfl) rfl rfl ?_))))|(apply z08;(first|refine z0o ?_|apply z09))|(apply z05;(first|apply z06|apply z00|apply z04|apply z01|refine z0f (fun _=>?_) (fun _=>?_)| refine z0h ?_)))
   all_goals try (exfalso;omega)
   refine z16 ?_
   refine z0c (z1u (fun q:Nat=>⟨105,[(1,.ptr (0,1) 0),(3,I .i64 F.length),(23,.d (.slice (A.map z4n))),(24,I .i64 A.length),(25,I .i64 (i:Nat)),(5,.d (z9o l)),(29,.d (z9o l)),(30,I .i64 l.length),(31,I .i64 (q:Nat))],[(1,.box [.d (z7s F),.d (.slice (A.map z4n))])],H⟩) (fun q=>q≤l.length∧zgl F.length (zmh l q) (l.drop q)=zgl F.length none l∧∀ y,zmh l q=some y→0≤y.1∧y.1≤y.2.1∧y.2.1≤1114111) (fun q=>l.length-q) ?_ 0 ⟨zAf _,rfl,by intro y hy;cases hy⟩) rfl rfl
   rintro k ⟨k1,k2,k3⟩ ihk
   by_cases hk:k<l.length
   · obtain⟨x,hx⟩:∃ x,l[k]? =some x:=⟨_,zA0 hk⟩
     have hpk:zmh l (k+1)=some x:=by rw[zmh,zAy (by omega)];exact hx
     rw[drop_cons hx,zag] at k2
     by_cases hb:zsn F.length x=true
     · rw[zAz hb] at k2
       rw[← k2,zAz (by decide)] at i2
       rw[← i2]
       simp only[zsn,zAu,zA3] at hb
       repeat' (first|(apply z07;(first|refine z0p ?_| (apply z0a;(first|refine z02 z1m rfl rfl ?_| refine z02 z2o rfl rfl ?_))|(apply z0e;(refine z02 z0s rfl rfl ?_))|(apply z0i;(refine z02 (z0v (ys:=l.map z2x) rfl (idx hx)) rfl rfl ?_))|(apply z0n;(refine z02 (z0r z0y) rfl rfl ?_))|(apply z0d;(refine z2g ?_))|(apply z0k;(refine z0b z2q ?_))))|(apply z08;(first|refine z0o ?_|apply z09|refine z1w ?_| refine z2m (fun _=>?_) (fun _=>?_)))|(apply z05;(first|apply z06|apply z00|refine z1d ?_| refine z0w ?_| apply z04|apply z01|apply z23|apply z03|refine z0f (fun _=>?_) (fun _=>?_)| refine z0h ?_))|(apply z25;(first|(apply z0t;refine z1b mix ?_)|refine z1z ?_| refine z29 ?_| (apply z0j;(refine z0g z1m rfl rfl ?_))|(apply z13;(refine z0g z0s rfl rfl ?_))|(apply z1q;(refine z0g (z1g z0y) rfl rfl ?_))|(refine z0x rfl rfl (fun hg=>?_) (fun hg=>?_) <;> simp only[hg] <;> (try simp only[zA3,zA5,zA6,zA8] at hg)))))
       all_goals exact zD92
     · rw[zAy hb] at k2
       simp only[zsn,zAu,zA3,not_or] at hb
       cases k with
       | zero =>
        rw[show zmh l 0=none from rfl] at k2
        simp only at k2
        have ihk':=ihk 1 ⟨by omega,by rw[hpk];exact k2,fun y hy=>by rw[hpk] at hy;cases hy;omega⟩ (by omega)
        repeat' (first|(apply z07;(first|refine z0p ?_| (apply z0a;(first|refine z02 z1m rfl rfl ?_| refine z02 z2o rfl rfl ?_))|(apply z0e;(refine z02 z0s rfl rfl ?_))|(apply z0i;(refine z02 (z0v (ys:=l.map z2x) rfl (idx hx)) rfl rfl ?_))|(apply z0n;(refine z02 (z0r z0y) rfl rfl ?_))|(apply z0d;(refine z2g ?_))|(apply z0k;(refine z0b z2q ?_))))|(apply z08;(first|refine z0o ?_|apply z09|refine z1w ?_| refine z2m (fun _=>?_) (fun _=>?_)))|(apply z05;(first|apply z06|apply z00|refine z1d ?_| refine z0w ?_| apply z04|apply z01|apply z23|apply z03|refine z0f (fun _=>?_) (fun _=>?_)| refine z0h ?_))|(apply z25;(first|(apply z0t;refine z1b mix ?_)|refine z1z ?_| refine z29 ?_)))
        all_goals exact zD83
       | succ k =>
        obtain⟨y,hy⟩:∃ y,l[k]? =some y:=⟨_,zA0 (by omega)⟩
        have hpy:zmh l (k+1)=some y:=by rw[zmh,zAy (by omega)];exact hy
        have hyi:l[(((k+1:Nat):Int)-1).toNat]? =some y:=by rw[show (((k+1:Nat):Int)-1).toNat=k by omega];exact hy
        have hyr:=k3 y hpy
        rw[hpy] at k2
        simp only at k2
        by_cases ho:zoz y x=true
        · rw[zAz ho] at k2
          rw[← k2,zAz (by decide)] at i2
          rw[← i2]
          simp only[zoz,zAu,zA7,zA3] at ho
          repeat' (first|(apply z07;(first|refine z0p ?_| (apply z0a;(first|refine z02 z1m rfl rfl ?_| refine z02 z2o rfl rfl ?_))|(apply z0e;(refine z02 z0s rfl rfl ?_))|(apply z0i;(refine z02 (z0v (ys:=l.map z2x) rfl (idx hx)) rfl rfl ?_))|(apply z0n;(refine z02 (z0r z0y) rfl rfl ?_))|(apply z0d;(refine z2g ?_))|(apply z0k;(refine z0b z2q ?_))))|(apply z08;(first|refine z0o ?_|apply z09|refine z1w ?_| refine z2m (fun _=>?_) (fun _=>?_)))|(apply z05;(first|apply z06|apply z00|refine z1d ?_| refine z0w ?_| apply z04|apply z01|apply z23|apply z03|refine z0f (fun _=>?_) (fun _=>?_)| refine z0h ?_))|(apply z25;(first|(apply z0t;refine z1b mix ?_)|refine z1z ?_| refine z29 ?_| (apply z0j;(first|refine z0g z1m rfl rfl ?_| refine z0g z22 rfl rfl ?_))|(apply z13;(first|refine z0g z0s rfl rfl ?_| refine z0g (z6h rfl rfl) rfl rfl ?_))|(apply z0l;(refine z0g (z0v (ys:=l.map z2x) rfl (z5o hyi)) rfl rfl ?_))|(apply z1q;(first|refine z0g (z0r (z9j (by omega) (by omega))) rfl rfl ?_| refine z0g (z1g z0y) rfl rfl ?_))|(refine z0x rfl rfl (fun hg=>?_) (fun hg=>?_) <;> simp only[hg] <;> (try simp only[zA3,zA5,zA6,zA8] at hg)))))
          all_goals exact zD92
        · rw[zAy ho] at k2
          simp only[zoz,zAu,zA7,zA3,not_or,not_and] at ho
          have ihk':=ihk (k+2) ⟨by omega,by rw[hpk];exact k2,fun y hy=>by rw[hpk] at hy;cases hy;omega⟩ (by omega)
          repeat' (first|(apply z07;(first|refine z0p ?_| (apply z0a;(first|refine z02 z1m rfl rfl ?_| refine z02 z2o rfl rfl ?_))|(apply z0e;(refine z02 z0s rfl rfl ?_))|(apply z0i;(refine z02 (z0v (ys:=l.map z2x) rfl (idx hx)) rfl rfl ?_))|(apply z0n;(refine z02 (z0r z0y) rfl rfl ?_))|(apply z0d;(refine z2g ?_))|(apply z0k;(refine z0b z2q ?_))))|(apply z08;(first|refine z0o ?_|apply z09|refine z1w ?_| refine z2m (fun _=>?_) (fun _=>?_)))|(apply z05;(first|apply z06|apply z00|refine z1d ?_| refine z0w ?_| apply z04|apply z01|apply z23|apply z03|refine z0f (fun _=>?_) (fun _=>?_)| refine z0h ?_))|(apply z25;(first|(apply z0t;refine z1b mix ?_)|refine z1z ?_| refine z29 ?_| (apply z0j;(first|refine z0g z1m rfl rfl ?_| refine z0g z22 rfl rfl ?_))|(apply z13;(first|refine z0g z0s rfl rfl ?_| refine z0g (z6h rfl rfl) rfl rfl ?_))|(apply z0l;(refine z0g (z0v (ys:=l.map z2x) rfl (z5o hyi)) rfl rfl ?_))|(apply z1q;(first|refine z0g (z0r (z9j (by omega) (by omega))) rfl rfl ?_| refine z0g (z1g z0y) rfl rfl ?_))|(refine z0x rfl rfl (fun hg=>?_) (fun hg=>?_) <;> simp only[hg] <;> (try simp only[zA3,zA5,zA6,zA8] at hg)))))
          all_goals exact zD83
   · exact zD45
 · obtain rfl:i=A.length:=by omega
   rw[zAs,z9y] at i2
   rw[← i2]
   repeat' (first|(apply z07;(refine z0p ?_))|(apply z08;(first|refine z0o ?_|apply z09))|(apply z05;(first|apply z06|apply z00|apply z04|apply z01|refine z0f (fun _=>?_) (fun _=>?_)| refine z0h ?_)))
   all_goals exact zD92
def y27 (a b:Int):Int:=if a<b then -1 else if b<a then 1 else 0
theorem zfu (a:Int):z0z Tryz.prog 112 [I .i32 a] (B false):=by
 refine z1l fun H=>?_
 refine z0m Tryz.func112 (by kernel_rfl) rfl (by simp) ?_
 dsimp only[Tryz.f112]
 repeat' (first|(apply z07;(refine z0p ?_))|(apply z08;(first|refine z0o ?_|apply z09))|(apply z05;(first|apply z06|apply z00)))
 all_goals try (exfalso;omega)
 all_goals exact z0q Tryz.func112 _ (zq6 rfl (by simp only[ne_eq,not_true_eq_false,decide_false];rfl)) ⟨rfl,rfl⟩
theorem zrv (a b:Int):z0z Tryz.prog 76 [I .i32 a,I .i32 b] (I .i64 (y27 a b)):=by
 refine z1l fun H=>?_
 have h1:=zfu a
 have h2:=zfu b
 refine z0m Tryz.func76 (by kernel_rfl) rfl (by simp) ?_
 dsimp only[Tryz.f76]
 rw[y27]
 by_cases c1:a<b
 · rw[zAz c1]
   all_goals exact zD28
 · rw[zAy c1]
   by_cases c2:b<a
   · rw[zAz c2]
     all_goals exact zD28
   · rw[zAy c2]
     all_goals exact zD28
theorem zp4 (x:Arc) (c:Int):z0z Tryz.prog 75 [.d (.agg (z2x x)),I .i32 c] (I .i64 (y27 x.2.1 c)):=by
 refine z1l fun H=>?_
 have h1:=zrv x.2.1 c
 refine z0m Tryz.func75 (by kernel_rfl) rfl (by simp) ?_
 dsimp only[Tryz.f75]
 repeat' (first|(apply z07;(first|refine z0p ?_| (apply z0a;(refine z02 z1m rfl rfl ?_))|(apply z0e;(refine z02 z0s rfl rfl ?_))|(apply z0u;(refine z1o h1 ?_))|(apply z1y;(refine z0b z2e ?_))))|(apply z08;(first|refine z0o ?_|apply z09))|(apply z05;(first|apply z06|apply z00)))
 all_goals try (exfalso;omega)
 all_goals exact z0q Tryz.func75 _ z1e ⟨rfl,rfl⟩
theorem zri (l:List Arc) (hl:l.length≤4611686018427387904) (ho:okA none l) (c:Int):z0z Tryz.prog 74 [.d (z9o l),I .i32 c,.fn (.func 75) [] []] (.tup [I .i64 (zgi c l:Nat),B (match l[zgi c l]? with|some x=>decide (x.2.1=c)|none=>false)]):=by
 refine z1l fun H=>?_
 have hmono:=zlh ho
 refine z0m Tryz.func74 (by kernel_rfl) rfl (by simp) ?_
 dsimp only[Tryz.f74]
 repeat' (first|(apply z07;(first|refine z0p ?_| (apply z14;(refine z02 (z1j rfl) rfl rfl ?_))))|(apply z08;(first|refine z0o ?_|apply z09))|(apply z05;(first|apply z06|apply z00|apply z01)))
 all_goals try (exfalso;omega)
 refine z16 ?_
 refine z0c (z1u (fun q:Nat × Nat=>⟨49,[(0,.d (z9o l)),(1,I .i32 c),(2,.fn (.func 75) [] []),(8,I .i64 l.length),(9,I .i64 (q.1:Nat)),(10,I .i64 (q.2:Nat))],[],H⟩) (fun q=>q.1≤q.2∧q.2≤l.length∧(∀ p x,p<q.1→l[p]? =some x→x.2.1<c)∧∀ p x,q.2≤p→l[p]? =some x→¬ x.2.1<c) (fun q=>q.2-q.1) ?_ (0,l.length) ⟨zAf _,zAj _,fun p x h=>absurd h (Nat.not_lt_zero _),fun p x h1 h2=>by have:=(zA1.1 h2).1;omega⟩) rfl rfl
 rintro⟨i,j⟩ ⟨i1,i2,i3,i4⟩ ih
 simp only at i1 i2 i3 i4 ih ⊢
 by_cases hlt:i<j
 · have hh:((((i:Nat):Int)+((j:Nat):Int)) / 2)=(((i+j) / 2:Nat):Int):=by omega
   obtain⟨x,hx⟩:∃ x,l[(i+j) / 2]? =some x:=⟨_,zA0 (by omega)⟩
   have hxi:l[((((i:Nat):Int)+((j:Nat):Int)) / 2).toNat]? =some x:=by rw[hh,zA9];exact hx
   have hc:=zp4 x c
   rw[y27] at hc
   by_cases hlo:x.2.1<c
   · rw[zAz hlo] at hc
     have ih':=ih ((i+j) / 2+1,j) ⟨by simp only;omega,i2,fun p y hp hy=>by have:=hmono p _ y x (by simp only at hp;omega) hy hx;omega,i4⟩ (by simp only;omega)
     rw[show (((i+j) / 2+1:Nat):Int)=(((i:Nat):Int)+((j:Nat):Int)) / 2+1 by omega] at ih'
     repeat' (first|(apply z07;(first|refine z0p ?_| (apply z0a;(refine z02 z2o rfl rfl ?_))|(apply z0i;(refine z02 (z0v (ys:=l.map z2x) rfl (z5o hxi)) rfl rfl ?_))|(apply z0n;(first|refine z02 (zhd (by omega)) rfl rfl ?_| refine z02 (z0r z0y) rfl rfl ?_))|(apply z0u;(refine zc1 (first:=[]) (cap:=[]) (ps:=[.d (.agg (z2x x)),I .i32 c]) hc rfl rfl (by decide) ?_))|(apply z6d;(first|refine z02 (z4z rfl rfl (zim (by omega) (by omega))) rfl rfl ?_| refine z02 (z4z rfl rfl z0y) rfl rfl ?_))))|(apply z08;(first|refine z0o ?_|apply z09|refine z1w ?_| refine z2m (fun _=>?_) (fun _=>?_)))|(apply z05;(first|apply z06|apply z00|refine z1d ?_| apply z04|apply z01|apply z03|refine z0f (fun _=>?_) (fun _=>?_)| refine z0h ?_)))
     all_goals exact zD6
   · have ih':=ih (i,(i+j) / 2) ⟨by simp only;omega,by simp only;omega,i3,fun p y hp hy=>by have:=hmono _ p x y hp hx hy;omega⟩ (by simp only;omega)
     rw[hh.symm] at ih'
     rw[zAy hlo] at hc
     have hc0:0≤(if c<x.2.1 then (1:Int) else 0):=by split <;> omega
     generalize (if c<x.2.1 then (1:Int) else 0)=cc at *
     repeat' (first|(apply z07;(first|refine z0p ?_| (apply z0a;(refine z02 z2o rfl rfl ?_))|(apply z0i;(refine z02 (z0v (ys:=l.map z2x) rfl (z5o hxi)) rfl rfl ?_))|(apply z0n;(first|refine z02 (zhd (by omega)) rfl rfl ?_| refine z02 (z0r z0y) rfl rfl ?_))|(apply z0u;(refine zc1 (first:=[]) (cap:=[]) (ps:=[.d (.agg (z2x x)),I .i32 c]) hc rfl rfl (by decide) ?_))|(apply z6d;(first|refine z02 (z4z rfl rfl (zim (by omega) (by omega))) rfl rfl ?_| refine z02 (z4z rfl rfl z0y) rfl rfl ?_))))|(apply z08;(first|refine z0o ?_|apply z09|refine z1w ?_| refine z2m (fun _=>?_) (fun _=>?_)))|(apply z05;(first|apply z06|apply z00|apply z04|apply z01|apply z03|refine z0f (fun _=>?_) (fun _=>?_)| refine z0h ?_)))
     all_goals exact zD6
 · obtain rfl:i=j:=by omega
   have hcut:=y2f (c:=c) i2 i3 (fun x hx=>i4 i x (zAj _) hx)
   rw[← hcut]
   clear ih
   by_cases hin:i<l.length
   · obtain⟨x,hx⟩:∃ x,l[i]? =some x:=⟨_,zA0 hin⟩
     have hnl:=i4 i x (zAj _) hx
     have hc:=zp4 x c
     rw[y27,zAy hnl] at hc
     rw[hx]
     simp only
     by_cases he:c<x.2.1
     · rw[zAz he] at hc
       rw[show decide (x.2.1=c)=false by simp;omega]
       all_goals exact zD21
     · rw[zAy he] at hc
       rw[show decide (x.2.1=c)=true by simp;omega]
       all_goals exact zD21
   · rw[zAv (by omega)]
     repeat' (first|(apply z07;(first|refine z0p ?_| (apply z0n;(first|refine z02 (z0r z0y) rfl rfl ?_| refine z02 (zhd (by omega)) rfl rfl ?_))|(apply z6d;(first|refine z02 (z4z rfl rfl (zim (by omega) (by omega))) rfl rfl ?_| refine z02 (z4z rfl rfl z0y) rfl rfl ?_))))|(apply z08;(first|refine z0o ?_|apply z09|refine z1w ?_| refine z2m (fun _=>?_) (fun _=>?_)))|(apply z05;(first|apply z06|apply z00|apply z04|apply z01|refine z0f (fun _=>?_) (fun _=>?_)| refine z0h ?_)))
     all_goals try (exfalso;omega)
     all_goals exact z0q Tryz.func74 _ (z3b rfl rfl rfl) ⟨rfl,rfl⟩
theorem zs9 (l:List Arc) (hl:l.length≤4611686018427387904) (ho:okA none l) (c:Int):z0z Tryz.prog 41 [.d (z9o l),I .i32 c] (I .i64 (nxt l c)):=by
 refine z1l fun H=>?_
 have hb:=zri l hl ho c
 have hcl:=zrg c l
 rw[zpm ho]
 refine z0m Tryz.func41 (by kernel_rfl) rfl (by simp) ?_
 dsimp only[Tryz.f41]
 by_cases hin:zgi c l<l.length
 · obtain⟨x,hx⟩:∃ x,l[zgi c l]? =some x:=⟨_,zA0 hin⟩
   rw[hx] at hb ⊢
   simp only at hb ⊢
   generalize zgi c l=i at *
   by_cases hc:c<x.1
   · rw[zAz hc]
     all_goals exact zD27
   · rw[zAy hc]
     all_goals exact zD27
 · rw[zAv (by omega)] at hb ⊢
   simp only at hb ⊢
   have:zgi c l=l.length:=by omega
   rw[this] at hb
   repeat' (first|(apply z07;(first|refine z0p ?_| (apply z14;(refine z02 (z1j rfl) rfl rfl ?_))|(apply z0u;(refine zc1 (first:=[]) (cap:=[]) (ps:=[.d (z9o l),I .i32 c,.fn (.func 75) [] []]) hb rfl rfl (by decide) ?_))))|(apply z08;(first|refine z0o ?_|apply z09|refine z1w ?_| refine z2m (fun _=>?_) (fun _=>?_)))|(apply z05;(first|apply z06|apply z00|refine z1d ?_)))
   all_goals try (exfalso;omega)
   all_goals exact z0q Tryz.func41 _ z1e ⟨rfl,rfl⟩
theorem zyu (a:Au) (q:Nat) (hq:q<a.A.length) (hl:∀ l∈a.A,l.length≤4611686018427387904) (c:Int):z0z Tryz.prog 43 [.d (auD a),I .i64 (q:Nat),I .i32 c] (I .i64 (a.nx q c)):=by
 obtain⟨F,A⟩:=a
 simp only at hq hl
 obtain⟨l,hA⟩:∃ l,A[q]? =some l:=⟨_,zA0 hq⟩
 have hll:=hl l (zA2 hA)
 have hnx:(⟨F,A⟩:Au).nx (q:Nat) c=nxt l c:=by rw[Au.nx,Au.arcs,zAy (by omega),zA9,List.getD,hA];rfl
 rw[hnx]
 refine z1l fun H=>?_
 refine z0m Tryz.func43 (by kernel_rfl) rfl (by simp) ?_
 dsimp only[Tryz.f43]
 repeat' (first|(apply z07;(first|refine z0p ?_| (apply z0a;(first|refine z02 z1m rfl rfl ?_| refine z02 z22 rfl rfl ?_))|(apply z0e;(refine z02 z0s rfl rfl ?_))|(apply z0i;(refine z02 (z0v (ys:=A.map z4n) rfl (idx hA)) rfl rfl ?_))|(apply z14;(refine z02 (z1j rfl) rfl rfl ?_))|(apply z1y;(refine z0b z2e ?_))))|(apply z08;(first|refine z0o ?_|apply z09))|(apply z05;(first|apply z06|apply z00|refine z0w ?_| apply z04|apply z01)))
 all_goals try (exfalso;omega)
 refine z16 ?_
 refine z0c (z1u (fun k:Nat=>⟨34,[(2,I .i32 c),(15,.d (z9o l)),(16,I .i64 l.length),(17,I .i64 (k:Nat))],[],H⟩) (fun k=>k≤l.length∧nxt (l.drop k) c=nxt l c) (fun k=>l.length-k) ?_ 0 ⟨zAf _,rfl⟩) rfl rfl
 rintro k ⟨k1,k2⟩ ih
 by_cases hlt:k<l.length
 · obtain⟨x,hx⟩:∃ x,l[k]? =some x:=⟨_,zA0 hlt⟩
   rw[drop_cons hx,nxt] at k2
   by_cases hc:x.1≤c∧c≤x.2.1
   · rw[zAz hc] at k2
     rw[← k2]
     repeat' (first|(apply z07;(first|refine z0p ?_| (apply z0a;(first|refine z02 z1m rfl rfl ?_| refine z02 z2o rfl rfl ?_))|(apply z0e;(refine z02 z0s rfl rfl ?_))|(apply z0i;(refine z02 (z0v (ys:=l.map z2x) rfl (idx hx)) rfl rfl ?_))|(apply z0n;(refine z02 (z0r z0y) rfl rfl ?_))|(apply z0d;(refine z2g ?_))|(apply z0k;(refine z0b z2q ?_))))|(apply z08;(first|refine z0o ?_|apply z09|refine z1w ?_| refine z2m (fun _=>?_) (fun _=>?_)))|(apply z05;(first|apply z06|apply z00|refine z0w ?_| apply z04|apply z01|apply z03|refine z0f (fun _=>?_) (fun _=>?_)| refine z0h ?_)))
     all_goals exact zD100
   · rw[zAy hc] at k2
     have ih':=ih (k+1) ⟨by omega,k2⟩ (by omega)
     repeat' (first|(apply z07;(first|refine z0p ?_| (apply z0a;(first|refine z02 z1m rfl rfl ?_| refine z02 z2o rfl rfl ?_))|(apply z0e;(refine z02 z0s rfl rfl ?_))|(apply z0i;(refine z02 (z0v (ys:=l.map z2x) rfl (idx hx)) rfl rfl ?_))|(apply z0n;(refine z02 (z0r z0y) rfl rfl ?_))|(apply z0d;(refine z2g ?_))|(apply z0k;(refine z0b z2q ?_))))|(apply z08;(first|refine z0o ?_|apply z09|refine z1w ?_| refine z2m (fun _=>?_) (fun _=>?_)))|(apply z05;(first|apply z06|apply z00|refine z0w ?_| apply z04|apply z01|apply z03|refine z0f (fun _=>?_) (fun _=>?_)| refine z0h ?_)))
     all_goals exact zD6
 · obtain rfl:k=l.length:=by omega
   rw[zAs,nxt] at k2
   rw[← k2]
   repeat' (first|(apply z07;(refine z0p ?_))|(apply z08;(first|refine z0o ?_|apply z09))|(apply z05;(first|apply z06|apply z00|apply z04|apply z01|refine z0f (fun _=>?_) (fun _=>?_)| refine z0h ?_)))
   all_goals exact zD100
theorem zpq (a:Au) (q:Int) (hq:q<0) (c:Int):z0z Tryz.prog 43 [.d (auD a),I .i64 q,I .i32 c] (I .i64 (-1)):=by
 obtain⟨F,A⟩:=a
 refine z1l fun H=>?_
 refine z0m Tryz.func43 (by kernel_rfl) rfl (by simp) ?_
 dsimp only[Tryz.f43]
 repeat' (first|(apply z07;(first|refine z0p ?_| (apply z0a;(refine z02 z1m rfl rfl ?_))|(apply z0e;(refine z02 z0s rfl rfl ?_))|(apply z1y;(refine z0b z2e ?_))))|(apply z08;(first|refine z0o ?_|apply z09))|(apply z05;(first|apply z06|apply z00|apply z04|refine z0f (fun _=>?_) (fun _=>?_))))
 all_goals exact zD100
def z9e (op:Int) (p q:Bool):Bool:=if op=1 then p&&q else if op=2 then p||q else if op=3 then p&&!q else p != q
theorem zsi (op:Int) (p q:Bool):z0z Tryz.prog 95 [I .i64 op,B p,B q] (B (z9e op p q)):=by
 refine z1l fun H=>?_
 refine z0m Tryz.func95 (by kernel_rfl) rfl (by simp) ?_
 dsimp only[Tryz.f95]
 rw[z9e]
 by_cases h1:op=1
 · rw[zAz h1]
   exact zD17
 rw[zAy h1]
 by_cases h2:op=2
 · rw[zAz h2]
   exact zD17
 rw[zAy h2]
 by_cases h3:op=3
 · rw[zAz h3]
   exact zD17
 rw[zAy h3]
 exact zD17
def zea (op:Int) (p q:Int):Bool:=if op=1 then decide (p<0)||decide (q<0) else if op=3 then decide (p<0) else decide (p<0)&&decide (q<0)
theorem zp2 (op p q:Int):z0z Tryz.prog 100 [I .i64 op,.d (.agg [z1x p,z1x q])] (B (zea op p q)):=by
 refine z1l fun H=>?_
 refine z0m Tryz.func100 (by kernel_rfl) rfl (by simp) ?_
 dsimp only[Tryz.f100]
 rw[zea]
 by_cases h1:op=1
 · rw[zAz h1]
   by_cases p0:p<0
   · rw[zAi p0,Bool.true_or]
     all_goals exact zD8
   · rw[zAo p0,Bool.false_or]
     all_goals exact zD8
 rw[zAy h1]
 by_cases h3:op=3
 · rw[zAz h3]
   all_goals exact zD8
 rw[zAy h3]
 by_cases p0:p<0
 · rw[zAi p0,Bool.true_and]
   all_goals exact zD8
 · rw[zAo p0,Bool.false_and]
   all_goals exact zD8
theorem zgu (a:Au) (q:Int) (hq:q<a.F.length):z0z Tryz.prog 96 [.d (auD a),I .i64 q] (B (a.fin q)):=by
 obtain⟨F,A⟩:=a
 refine z1l fun H=>?_
 refine z0m Tryz.func96 (by kernel_rfl) rfl (by simp) ?_
 dsimp only[Tryz.f96]
 rw[Au.fin]
 by_cases hn:q<0
 · rw[zAz hn]
   repeat' (first|(apply z07;(first|refine z0p ?_| (apply z0a;(refine z02 z1m rfl rfl ?_))|(apply z0e;(refine z02 z0s rfl rfl ?_))|(apply z1y;(refine z0b z2e ?_))))|(apply z08;(first|refine z0o ?_|apply z09|refine z1w ?_| refine z2m (fun _=>?_) (fun _=>?_)))|(apply z05;(first|apply z06|apply z00)))
   all_goals try (exfalso;omega)
   all_goals exact z0q Tryz.func96 _ z1e ⟨rfl,rfl⟩
 · rw[zAy hn]
   obtain⟨k,rfl⟩:∃ k:Nat,q=k:=⟨q.toNat,by omega⟩
   simp only at hq
   obtain⟨b,hb⟩:∃ b,F[k]? =some b:=⟨_,zA0 (by omega)⟩
   simp only[zA9,List.getD,hb,Option.getD_some]
   repeat' (first|(apply z07;(first|refine z0p ?_| (apply z0a;(first|refine z02 z1m rfl rfl ?_| refine z02 z22 rfl rfl ?_))|(apply z0e;(refine z02 z0s rfl rfl ?_))|(apply z0i;(refine z02 (z0v (ys:=F.map fun b=>[z8c b]) rfl (idx (g:=fun b=>[z8c b]) hb)) rfl rfl ?_))|(apply z1y;(refine z0b z2e ?_))))|(apply z08;(first|refine z0o ?_|apply z09))|(apply z05;(first|apply z06|apply z00)))
   all_goals try (exfalso;omega)
   all_goals exact z0q Tryz.func96 _ z1e ⟨rfl,rfl⟩
theorem zih (a:Au) (q:Int) (hq:q<a.F.length):z0z Tryz.prog 89 [.d (auD a),I .i64 q] (B (a.fin q)):=by
 obtain⟨F,A⟩:=a
 refine z1l fun H=>?_
 refine z0m Tryz.func89 (by kernel_rfl) rfl (by simp) ?_
 dsimp only[Tryz.f89]
 rw[Au.fin]
 by_cases hn:q<0
 · rw[zAz hn]
   repeat' (first|(apply z07;(first|refine z0p ?_| (apply z0a;(refine z02 z1m rfl rfl ?_))|(apply z0e;(refine z02 z0s rfl rfl ?_))|(apply z1y;(refine z0b z2e ?_))))|(apply z08;(first|refine z0o ?_|apply z09|refine z1w ?_| refine z2m (fun _=>?_) (fun _=>?_)))|(apply z05;(first|apply z06|apply z00)))
   all_goals try (exfalso;omega)
   all_goals exact z0q Tryz.func89 _ z1e ⟨rfl,rfl⟩
 · rw[zAy hn]
   obtain⟨k,rfl⟩:∃ k:Nat,q=k:=⟨q.toNat,by omega⟩
   simp only at hq
   obtain⟨b,hb⟩:∃ b,F[k]? =some b:=⟨_,zA0 (by omega)⟩
   simp only[zA9,List.getD,hb,Option.getD_some]
   repeat' (first|(apply z07;(first|refine z0p ?_| (apply z0a;(first|refine z02 z1m rfl rfl ?_| refine z02 z22 rfl rfl ?_))|(apply z0e;(refine z02 z0s rfl rfl ?_))|(apply z0i;(refine z02 (z0v (ys:=F.map fun b=>[z8c b]) rfl (idx (g:=fun b=>[z8c b]) hb)) rfl rfl ?_))|(apply z1y;(refine z0b z2e ?_))))|(apply z08;(first|refine z0o ?_|apply z09))|(apply z05;(first|apply z06|apply z00)))
   all_goals try (exfalso;omega)
   all_goals exact z0q Tryz.func89 _ z1e ⟨rfl,rfl⟩
theorem zle (a:Au) (q:Int) (hq:q<a.A.length):z0z Tryz.prog 98 [.d (auD a),I .i64 q] (.d (z9o (a.arcs q))):=by
 obtain⟨F,A⟩:=a
 refine z1l fun H=>?_
 refine z0m Tryz.func98 (by kernel_rfl) rfl (by simp) ?_
 dsimp only[Tryz.f98]
 rw[Au.arcs]
 by_cases hn:q<0
 · rw[zAz hn]
   repeat' (first|(apply z07;(first|refine z0p ?_| (apply z0a;(refine z02 z1m rfl rfl ?_))|(apply z0e;(refine z02 z0s rfl rfl ?_))|(apply z1y;(refine z0b z2e ?_))))|(apply z08;(first|refine z0o ?_|apply z09))|(apply z05;(first|apply z06|apply z00|apply z04|refine z0f (fun _=>?_) (fun _=>?_))))
   all_goals try (exfalso;omega)
   refine y0x 4 rfl ?_
   all_goals exact z0q Tryz.func98 _ z1e ⟨rfl,rfl⟩
 · rw[zAy hn]
   obtain⟨k,rfl⟩:∃ k:Nat,q=k:=⟨q.toNat,by omega⟩
   simp only at hq
   obtain⟨l,hb⟩:∃ l,A[k]? =some l:=⟨_,zA0 (by omega)⟩
   simp only[zA9,List.getD,hb,Option.getD_some]
   repeat' (first|(apply z07;(first|refine z0p ?_| (apply z0a;(first|refine z02 z1m rfl rfl ?_| refine z02 z22 rfl rfl ?_))|(apply z0e;(refine z02 z0s rfl rfl ?_))|(apply z0i;(refine z02 (z0v (ys:=A.map z4n) rfl (idx hb)) rfl rfl ?_))|(apply z1y;(refine z0b z2e ?_))))|(apply z08;(first|refine z0o ?_|apply z09))|(apply z05;(first|apply z06|apply z00|refine z0w ?_| apply z04)))
   all_goals try (exfalso;omega)
   all_goals exact z0q Tryz.func98 _ z1e ⟨rfl,rfl⟩
theorem zyx (l:List Arc) (hl:l.length≤2000000):z0z Tryz.prog 85 [.d (z9o l)] (.d (z9o l)):=by
 refine z1l fun H=>?_
 refine z0m Tryz.func85 (by kernel_rfl) rfl (by simp) ?_
 dsimp only[Tryz.f85]
 repeat' (first|(apply z07;(first|refine z0p ?_| (apply z14;(refine z02 (z1j rfl) rfl rfl ?_))))|(apply z08;(first|refine z0o ?_|apply z09))|(apply z05;(first|apply z06|apply z00|apply z01)))
 all_goals try (exfalso;omega)
 refine z2r 3 1000 169 3 rfl rfl rfl ?_
 refine z16 ?_
 refine z0c (z1u (fun q:Nat=>⟨24,[(3,.ref (0,1000)),(6,.d (z9o l)),(7,I .i64 l.length),(8,I .i64 (q:Nat))],[(1000,.row 169 3 ((l.take q).map z2x))],H⟩) (fun q=>q≤l.length) (fun q=>l.length-q) ?_ 0 (zAf _)) rfl rfl
 rintro i i1 ih
 by_cases hlt:i<l.length
 · obtain⟨x,hx⟩:∃ x,l[i]? =some x:=⟨_,zA0 hlt⟩
   have ih':=ih (i+1) (by omega) (by omega)
   rw[z5s hx] at ih'
   have htl:(l.take i).length≤2000000:=by rw[zAm];omega
   generalize l.take i=Q at *
   repeat' (first|(apply z07;(first|refine z0p ?_| (apply z0a;(first|refine z02 z1m rfl rfl ?_| refine z02 z2o rfl rfl ?_))|(apply z0e;(refine z02 z0s rfl rfl ?_))|(apply z0i;(refine z02 (z0v (ys:=l.map z2x) rfl (idx hx)) rfl rfl ?_))|(apply z0n;(refine z02 (z0r z0y) rfl rfl ?_))|(apply z14;(refine z30 (g:=z2x) x rfl ?_))|(apply z0d;(refine z2g ?_))|(apply z0k;(refine z0b z2q ?_))|(apply z15;(refine z3u ?_))|(apply z2h;(refine z2n rfl ?_))))|(apply z08;(first|refine z0o ?_|apply z09))|(apply z05;(first|apply z06|apply z00|apply z04|apply z01|apply z03|refine z0f (fun _=>?_) (fun _=>?_)| refine z0h ?_)))
   all_goals try (exfalso;omega)
   all_goals refine z2a 21 1000 ?_
   all_goals exact z0c ih' rfl rfl
 · obtain rfl:i=l.length:=by omega
   rw[List.take_length] at *
   repeat' (first|(apply z07;(refine z0p ?_))|(apply z08;(first|refine z0o ?_|apply z09))|(apply z05;(first|apply z06|apply z00|apply z04|apply z01|refine z0f (fun _=>?_) (fun _=>?_)| refine z0h ?_)))
   all_goals try (exfalso;omega)
   all_goals refine z1r 1000 rfl ?_
   all_goals exact z0q Tryz.func85 _ z1e ⟨rfl,rfl⟩
def z4e (l:List Arc):List Rx.Rg:=l.map fun x=>(x.1,x.2.1)
theorem zew (l:List Arc) (hl:l.length≤2000000):z0z Tryz.prog 99 [.d (z9o l)] (.d (rgs (z4e l))):=by
 refine z1l fun H=>?_
 refine z0m Tryz.func99 (by kernel_rfl) rfl (by simp) ?_
 dsimp only[Tryz.f99]
 repeat' (first|(apply z07;(first|refine z0p ?_| (apply z14;(refine z02 (z1j rfl) rfl rfl ?_))))|(apply z08;(first|refine z0o ?_|apply z09))|(apply z05;(first|apply z06|apply z00|apply z01)))
 all_goals try (exfalso;omega)
 refine z2r 3 1000 155 2 rfl rfl rfl ?_
 refine z16 ?_
 refine z0c (z1u (fun q:Nat=>⟨22,[(3,.ref (0,1000)),(6,.d (z9o l)),(7,I .i64 l.length),(8,I .i64 (q:Nat))],[(1000,.row 155 2 (((z4e l).take q).map rgc))],H⟩) (fun q=>q≤l.length) (fun q=>l.length-q) ?_ 0 (zAf _)) rfl rfl
 rintro i i1 ih
 by_cases hlt:i<l.length
 · obtain⟨x,hx⟩:∃ x,l[i]? =some x:=⟨_,zA0 hlt⟩
   have hr:(z4e l)[i]? =some (x.1,x.2.1):=by rw[z4e,zAd,hx];rfl
   have ih':=ih (i+1) (by omega) (by omega)
   rw[z5s hr] at ih'
   have htl:((z4e l).take i).length≤2000000:=by rw[zAm];omega
   generalize (z4e l).take i=Q at *
   repeat' (first|(apply z07;(first|refine z0p ?_| (apply z0a;(first|refine z02 z1m rfl rfl ?_| refine z02 z2o rfl rfl ?_))|(apply z0e;(refine z02 z0s rfl rfl ?_))|(apply z0i;(refine z02 (z0v (ys:=l.map z2x) rfl (idx hx)) rfl rfl ?_))|(apply z0n;(refine z02 (z0r z0y) rfl rfl ?_))|(apply z14;(refine z30 (g:=rgc) (x.1,x.2.1) rfl ?_))|(apply z0d;(refine z2g ?_))|(apply z0k;(refine z0b z2q ?_))|(apply z15;(refine z3u ?_))|(apply z2h;(refine z2n rfl ?_))))|(apply z08;(first|refine z0o ?_|apply z09))|(apply z05;(first|apply z06|apply z00|apply z04|apply z01|apply z03|refine z0f (fun _=>?_) (fun _=>?_)| refine z0h ?_)))
   all_goals try (exfalso;omega)
   all_goals refine z2a 19 1000 ?_
   all_goals exact z0c ih' rfl rfl
 · obtain rfl:i=l.length:=by omega
   rw[show l.length=(z4e l).length by rw[z4e,zA4],List.take_length] at *
   repeat' (first|(apply z07;(refine z0p ?_))|(apply z08;(first|refine z0o ?_|apply z09))|(apply z05;(first|apply z06|apply z00|apply z04|apply z01|refine z0f (fun _=>?_) (fun _=>?_)| refine z0h ?_)))
   all_goals try (exfalso;omega)
   all_goals refine z1r 1000 rfl ?_
   all_goals exact z0q Tryz.func99 _ z1e ⟨rfl,rfl⟩
abbrev ints (l:List Int):D:=.slice (l.map fun x=>[z1x x])
theorem zhi (l:List Arc) (cl:List Int) (hl:l.length≤2000000) (hr:∀ x∈l,0≤x.1∧x.1≤x.2.1∧x.2.1≤1114111∧0≤x.2.2∧x.2.2<cl.length):z0z Tryz.prog 81 [.d (z9o l),.d (ints cl)] (.d (z9o (byC cl l))):=by
 refine z1l fun H=>?_
 refine z0m Tryz.func81 (by kernel_rfl) rfl (by simp) ?_
 dsimp only[Tryz.f81]
 repeat' (first|(apply z07;(first|refine z0p ?_| (apply z14;(refine z02 (z1j rfl) rfl rfl ?_))))|(apply z08;(first|refine z0o ?_|apply z09))|(apply z05;(first|apply z06|apply z00|apply z01)))
 all_goals try (exfalso;omega)
 refine z2r 5 1000 169 3 rfl rfl rfl ?_
 refine z16 ?_
 refine z0c (z1u (fun q:Nat × List Arc=>⟨67,[(1,.d (ints cl)),(5,.ref (0,1000)),(10,.d (z9o l)),(11,I .i64 l.length),(12,I .i64 (q.1:Nat))],[(1000,.row 169 3 (q.2.map z2x))],H⟩) (fun q=>q.1≤l.length∧q.2.length≤q.1∧(∀ y∈q.2,0≤y.2.1∧y.2.1≤1114111)∧(l.drop q.1).foldl (zbh cl) q.2=byC cl l) (fun q=>l.length-q.1) ?_ (0,[]) ⟨zAf _,zAj _,by simp,rfl⟩) rfl rfl
 rintro⟨i,out⟩ ⟨i1,i2,i3,i4⟩ ih
 simp only at i1 i2 i3 i4 ih ⊢
 by_cases hlt:i<l.length
 · obtain⟨x,hx⟩:∃ x,l[i]? =some x:=⟨_,zA0 hlt⟩
   obtain⟨r1,r2,r3,r4,r5⟩:=hr x (zA2 hx)
   obtain⟨k,hk⟩:∃ k,cl[x.2.2.toNat]? =some k:=⟨_,zA0 (by omega)⟩
   have hck:clA cl x.2.2=k:=by rw[clA,zAy (by omega),List.getD,hk];rfl
   rw[drop_cons hx,List.foldl_cons,zbh,hck] at i4
   by_cases hneg:k<0
   · rw[zAz hneg] at i4
     have ih':=ih (i+1,out) ⟨by simp only;omega,by simp only;omega,i3,i4⟩ (by simp only;omega)
     repeat' (first|(apply z07;(first|refine z0p ?_| (apply z0a;(first|refine z02 z1m rfl rfl ?_| refine z02 z22 rfl rfl ?_| refine z02 z2o rfl rfl ?_))|(apply z0e;(refine z02 z0s rfl rfl ?_))|(apply z0i;(first|refine z02 (z0v (ys:=l.map z2x) rfl (idx hx)) rfl rfl ?_| refine z02 (z0v (ys:=cl.map fun x=>[z1x x]) rfl (z5o (g:=fun x=>[z1x x]) hk)) rfl rfl ?_))|(apply z0n;(refine z02 (z0r z0y) rfl rfl ?_))|(apply z14;(refine z02 (z1h rfl) rfl rfl ?_))|(apply z0d;(refine z2g ?_))|(apply z0k;(refine z0b z2q ?_))|(apply z15;(refine z3u ?_))|(apply z2h;(refine z2n rfl ?_))))|(apply z08;(first|refine z0o ?_|apply z09))|(apply z05;(first|apply z06|apply z00|refine z0w ?_| apply z04|apply z01|apply z23|refine z0f (fun _=>?_) (fun _=>?_)| refine z0h ?_))|(apply z25;(first|(apply z0t;refine z1b mix ?_)|refine z1z ?_| refine z29 ?_| (apply z1q;(refine z0g (z1g z0y) rfl rfl ?_))|(refine z0x rfl rfl (fun hg=>?_) (fun hg=>?_) <;> simp only[hg] <;> (try simp only[zA3,zA5,zA6,zA8] at hg)))))
     all_goals exact zD6
   · rw[zAy hneg] at i4
     have hln:=z9d out x.1 x.2.1 k
     have ih':=ih (i+1,ext out x.1 x.2.1 k) ⟨by simp only;omega,by simp only;omega,fun y hy=>by
      rcases ext_mem hy with h|h
      · omega
      · exact i3 y h,i4⟩ (by simp only;omega)
     clear ih hln
     rcases zgm out with rfl|⟨m,y,rfl⟩
     · rw[ext_nil] at ih'
       simp only at ih'
       repeat' (first|(apply z07;(first|refine z0p ?_| (apply z0a;(first|refine z02 z1m rfl rfl ?_| refine z02 z22 rfl rfl ?_| refine z02 z2o rfl rfl ?_))|(apply z0e;(refine z02 z0s rfl rfl ?_))|(apply z0i;(first|refine z02 (z0v (ys:=l.map z2x) rfl (idx hx)) rfl rfl ?_| refine z02 (z0v (ys:=cl.map fun x=>[z1x x]) rfl (z5o (g:=fun x=>[z1x x]) hk)) rfl rfl ?_))|(apply z0n;(refine z02 (z0r z0y) rfl rfl ?_))|(apply z14;(first|refine z02 (zbx rfl) rfl rfl ?_| refine z5i (g:=z2x) rfl rfl (x.1,x.2.1,k) rfl rfl rfl rfl rfl rfl rfl (by decide) (by simp) ?_))|(apply z0d;(refine z2g ?_))|(apply z0k;(refine z0b z2q ?_))|(apply z15;(refine z3u ?_))|(apply z2h;(refine z2n rfl ?_))))|(apply z08;(first|refine z0o ?_|apply z09))|(apply z05;(first|apply z06|apply z00|refine z0w ?_| apply z04|apply z01|apply z23|apply z03|refine z0f (fun _=>?_) (fun _=>?_)| refine z0h ?_))|(apply z25;(first|(apply z0t;refine z1b mix ?_)|refine z1z ?_| refine z29 ?_)))
       all_goals try (exfalso;first|omega|(simp at *;done))
       all_goals refine z2a 64 1000 ?_
       all_goals exact z0c ih' rfl rfl
     · have hy:=i3 y (by simp)
       have hln:((m++[y]).map z2x).length=m.length+1:=by simp
       have hln2:(m++[y]).length=m.length+1:=by simp
       have hix:(m++[y])[((((((m++[y]).map z2x).length:Nat):Int)-1)).toNat]? =some y:=by
        rw[hln,show (((m.length+1:Nat):Int)-1).toNat=m.length by omega];simp
       have hse:(m++[y]).set ((((((m++[y]).map z2x).length:Nat):Int)-1)).toNat ((y.1,x.2.1,y.2.2):Arc)=m++[(y.1,x.2.1,y.2.2)]:=by
        rw[hln,show (((m.length+1:Nat):Int)-1).toNat=m.length by omega];simp
       rw[z45] at ih'
       by_cases hj:y.2.1+1=x.1∧y.2.2=k
       · rw[zAz hj,← hj.2] at ih'
         simp only at ih'
         repeat' (first|(apply z07;(first|refine z0p ?_| (apply z0a;(first|refine z02 z1m rfl rfl ?_| refine z02 z22 rfl rfl ?_| refine z02 z2o rfl rfl ?_))|(apply z0e;(first|refine z02 z0s rfl rfl ?_| refine z02 z4b rfl rfl ?_))|(apply z0i;(first|refine z02 (z0v (ys:=l.map z2x) rfl (idx hx)) rfl rfl ?_| refine z02 (z0v (ys:=cl.map fun x=>[z1x x]) rfl (z5o (g:=fun x=>[z1x x]) hk)) rfl rfl ?_| refine z02 (z3q rfl) rfl rfl ?_))|(apply z0n;(first|refine z02 (z0r z0y) rfl rfl ?_| refine z02 (z1g z0y) rfl rfl ?_))|(apply z14;(first|refine z02 (zbx rfl) rfl rfl ?_| refine z30 (g:=z2x) (x.1,x.2.1,k) rfl ?_))|(apply z0d;(first|refine z4g ((y.1,x.2.1,y.2.2):Arc) hix hse ?_| refine z2g ?_))|(apply z0k;(refine z0b z2q ?_))|(apply z15;(refine z3u ?_))|(apply z2h;(refine z2n rfl ?_))))|(apply z08;(first|refine z0o ?_|apply z09))|(apply z05;(first|apply z06|apply z00|refine z0w ?_| apply z04|apply z01|apply z23|apply z03|refine z0f (fun _=>?_) (fun _=>?_)| refine z0h ?_))|(apply z25;(first|(apply z0t;refine z1b mix ?_)|refine z1z ?_| refine z29 ?_| (apply z0j;(first|refine z0g (z11 (u:=z1v y.2.1) hix) rfl rfl ?_| refine z0g (z11 (u:=z1x y.2.2) hix) rfl rfl ?_| refine z0g z1m rfl rfl ?_))|(apply z13;(first|refine z0g z0s rfl rfl ?_| refine z0g z4b rfl rfl ?_))|(apply z0l;(refine z0g (z3q rfl) rfl rfl ?_))|(apply z1q;(first|refine z0g (z0r (z9j (by omega) (by omega))) rfl rfl ?_| refine z0g (z1g z0y) rfl rfl ?_))|(refine z0x rfl rfl (fun hg=>?_) (fun hg=>?_) <;> simp only[hg] <;> (try simp only[zA3,zA5,zA6,zA8] at hg)))))
         all_goals exact zD6
       · rw[zAy hj] at ih'
         simp only at ih'
         repeat' (first|(apply z07;(first|refine z0p ?_| (apply z0a;(first|refine z02 z1m rfl rfl ?_| refine z02 z22 rfl rfl ?_| refine z02 z2o rfl rfl ?_))|(apply z0e;(first|refine z02 z0s rfl rfl ?_| refine z02 z4b rfl rfl ?_))|(apply z0i;(first|refine z02 (z0v (ys:=l.map z2x) rfl (idx hx)) rfl rfl ?_| refine z02 (z0v (ys:=cl.map fun x=>[z1x x]) rfl (z5o (g:=fun x=>[z1x x]) hk)) rfl rfl ?_| refine z02 (z3q rfl) rfl rfl ?_))|(apply z0n;(first|refine z02 (z0r z0y) rfl rfl ?_| refine z02 (z1g z0y) rfl rfl ?_))|(apply z14;(first|refine z02 (zbx rfl) rfl rfl ?_| refine z30 (g:=z2x) (x.1,x.2.1,k) rfl ?_))|(apply z0d;(first|refine z4g ((y.1,x.2.1,y.2.2):Arc) hix hse ?_| refine z2g ?_))|(apply z0k;(refine z0b z2q ?_))|(apply z15;(refine z3u ?_))|(apply z2h;(refine z2n rfl ?_))))|(apply z08;(first|refine z0o ?_|apply z09))|(apply z05;(first|apply z06|apply z00|refine z0w ?_| apply z04|apply z01|apply z23|apply z03|refine z0f (fun _=>?_) (fun _=>?_)| refine z0h ?_))|(apply z25;(first|(apply z0t;refine z1b mix ?_)|refine z1z ?_| refine z29 ?_| (apply z0j;(first|refine z0g (z11 (u:=z1v y.2.1) hix) rfl rfl ?_| refine z0g (z11 (u:=z1x y.2.2) hix) rfl rfl ?_| refine z0g z1m rfl rfl ?_))|(apply z13;(first|refine z0g z0s rfl rfl ?_| refine z0g z4b rfl rfl ?_))|(apply z0l;(refine z0g (z3q rfl) rfl rfl ?_))|(apply z1q;(first|refine z0g (z0r (z9j (by omega) (by omega))) rfl rfl ?_| refine z0g (z1g z0y) rfl rfl ?_))|(refine z0x rfl rfl (fun hg=>?_) (fun hg=>?_) <;> simp only[hg] <;> (try simp only[zA3,zA5,zA6,zA8] at hg)))))
         all_goals try (exfalso;omega)
         all_goals refine z2a 64 1000 ?_
         all_goals exact z0c ih' rfl rfl
 · obtain rfl:i=l.length:=by omega
   rw[zAs,List.foldl_nil] at i4
   rw[← i4]
   repeat' (first|(apply z07;(refine z0p ?_))|(apply z08;(first|refine z0o ?_|apply z09))|(apply z05;(first|apply z06|apply z00|apply z04|apply z01|refine z0f (fun _=>?_) (fun _=>?_)| refine z0h ?_)))
   all_goals try (exfalso;omega)
   all_goals refine z1r 1000 rfl ?_
   all_goals exact z0q Tryz.func81 _ z1e ⟨rfl,rfl⟩
open Go.Ab Go.Ax Go.Rx
theorem zio (l:List Rg) (hl:l.length≤9223372036854775807) (c:Int):z0z Tryz.prog 62 [.d (rgs l),I .i32 c] (B (inB l c)):=by
 refine z1l fun H=>?_
 refine z0m Tryz.func62 (by kernel_rfl) rfl (by simp) ?_
 dsimp only[Tryz.f62]
 repeat' (first|(apply z07;(first|refine z0p ?_| (apply z14;(refine z02 (z1j rfl) rfl rfl ?_))))|(apply z08;(first|refine z0o ?_|apply z09))|(apply z05;(first|apply z06|apply z00|apply z01)))
 all_goals try (exfalso;omega)
 refine z16 ?_
 refine z0c (z1u (fun q:Nat=>⟨24,[(1,I .i32 c),(7,.d (rgs l)),(8,I .i64 l.length),(9,I .i64 (q:Nat))],[],H⟩) (fun q=>q≤l.length∧inB (l.drop q) c=inB l c) (fun q=>l.length-q) ?_ 0 ⟨zAf _,rfl⟩) rfl rfl
 intro q ⟨i1,i2⟩ ih
 by_cases hlt:q<l.length
 · obtain⟨r,hr⟩:∃ r,l[q]? =some r:=⟨_,zA0 hlt⟩
   rw[drop_cons hr,inB,List.any_cons,← inB] at i2
   by_cases hc:r.1≤c∧c≤r.2
   · rw[zAi hc.1,zAi hc.2,Bool.true_and,Bool.true_or] at i2
     rw[← i2]
     repeat' (first|(apply z07;(first|refine z0p ?_| (apply z0a;(first|refine z02 z1m rfl rfl ?_| refine z02 z2o rfl rfl ?_))|(apply z0e;(refine z02 z0s rfl rfl ?_))|(apply z0i;(refine z02 (z0v (ys:=l.map rgc) rfl (idx hr)) rfl rfl ?_))|(apply z0n;(refine z02 (z0r z0y) rfl rfl ?_))|(apply z0d;(refine z2g ?_))|(apply z0k;(refine z0b z2q ?_))))|(apply z08;(first|refine z0o ?_|apply z09|refine z1w ?_| refine z2m (fun _=>?_) (fun _=>?_)))|(apply z05;(first|apply z06|apply z00|refine z0w ?_| apply z04|apply z01|apply z03|refine z0f (fun _=>?_) (fun _=>?_)| refine z0h ?_)))
     all_goals try (exfalso;omega)
     all_goals exact z0q Tryz.func62 _ z1e ⟨rfl,rfl⟩
   · have hf:(decide (r.1≤c)&&decide (c≤r.2))=false:=by
      rw[← Bool.decide_and];exact zAo hc
     rw[hf,Bool.false_or] at i2
     repeat' (first|(apply z07;(first|refine z0p ?_| (apply z0a;(first|refine z02 z1m rfl rfl ?_| refine z02 z2o rfl rfl ?_))|(apply z0e;(refine z02 z0s rfl rfl ?_))|(apply z0i;(refine z02 (z0v (ys:=l.map rgc) rfl (idx hr)) rfl rfl ?_))|(apply z0n;(refine z02 (z0r z0y) rfl rfl ?_))|(apply z0d;(refine z2g ?_))|(apply z0k;(refine z0b z2q ?_))))|(apply z08;(first|refine z0o ?_|apply z09|refine z1w ?_| refine z2m (fun _=>?_) (fun _=>?_)))|(apply z05;(first|apply z06|apply z00|refine z0w ?_| apply z04|apply z01|apply z03|refine z0f (fun _=>?_) (fun _=>?_)| refine z0h ?_)))
     all_goals try (exfalso;omega)
     all_goals exact z0c (ih (q+1) ⟨by omega,i2⟩ (by omega)) rfl rfl
 · obtain rfl:q=l.length:=by omega
   rw[zAs,inB,List.any_nil] at i2
   rw[← i2]
   repeat' (first|(apply z07;(refine z0p ?_))|(apply z08;(first|refine z0o ?_|apply z09))|(apply z05;(first|apply z06|apply z00|apply z04|apply z01|refine z0f (fun _=>?_) (fun _=>?_)| refine z0h ?_)))
   all_goals try (exfalso;omega)
   all_goals exact z0q Tryz.func62 _ z1e ⟨rfl,rfl⟩
def zt3 (p q:Bool) (op:Int):Bool:=if op=1 then p&&q else if op=2 then p||q else if op=3 then p&&!q else if op=4 then p != q else !p
theorem zte (op:Int) (p q:Bool):z0z Tryz.prog 88 [B p,B q,I .i64 op] (B (zt3 p q op)):=by
 refine z1l fun H=>?_
 refine z0m Tryz.func88 (by kernel_rfl) rfl (by simp) ?_
 dsimp only[Tryz.f88]
 rw[zt3]
 by_cases h1:op=1
 · rw[zAz h1]
   exact zD12
 rw[zAy h1]
 by_cases h2:op=2
 · rw[zAz h2]
   exact zD12
 rw[zAy h2]
 by_cases h3:op=3
 · rw[zAz h3]
   exact zD12
 rw[zAy h3]
 by_cases h4:op=4
 · rw[zAz h4]
   exact zD12
 rw[zAy h4]
 exact zD12
abbrev cps (s:ByteArray) (i:Nat):List Int:=(rst s i).map (·.r)
def y3q (a:Au) (s:ByteArray):Bool:=if vAu a=0∧y5k s=true then a.acc 0 (cps s 0) else false
theorem y08 {a:Au} (hv:y5x a) (k:Nat) (hk:k<a.F.length) (c:Int):∃ l,a.A[k]? =some l∧okA none l∧a.nx (k:Nat) c=nxt l c∧-1≤nxt l c∧nxt l c<a.F.length:=by
 obtain⟨l,hl⟩:∃ l,a.A[k]? =some l:=⟨_,zA0 (by rw[hv.len];exact hk)⟩
 have hla:=hv.arc l (zA2 hl)
 refine⟨l,hl,hla.1,by rw[Au.nx,Au.arcs,zAy (by omega),zA9,List.getD,hl];rfl,zm6 (p:=none) hla.1 c,?_⟩
 have key:∀ m:List Arc,(∀ x∈m,x.2.2<a.F.length)→nxt m c<a.F.length:=fun m=>by
  induction m with
  | nil=>intro _;simp only[nxt];have:=hv.pos;omega
  | cons x m ih =>
   intro h
   rw[nxt]
   split
   · exact h x (by simp)
   · exact ih fun y hy=>h y (by simp[hy])
 exact key l fun x hx=>(hla.2 x hx).2.2.2.2
theorem y2y (s:ByteArray) (hs:s.size≤1000000):z0z Tryz.prog 40 [S s] (B (y5k s)):=by
 have h:=zxu s hs
 rw[zwu] at h
 exact h
theorem y1i (a:Au) (hf:z9f a) (hl:∀ l∈a.A,l.length≤4611686018427387904) (s:ByteArray) (hs:s.size≤1000000):z0z Tryz.prog 19 [.d (auD a),S s] (B (y3q a s)):=by
 have hv:=zaz a hf
 have hd:=y2y s hs
 refine z1l fun H=>?_
 rw[y3q]
 by_cases h0:vAu a=0
 · rw[h0] at hv
   by_cases h1:y5k s=true
   · have hva:=zj2 h0
     rw[zAz ⟨h0,h1⟩]
     rw[h1] at hd
     obtain⟨F,A⟩:=a
     simp only at hl
     refine z0m Tryz.func19 (by kernel_rfl) rfl (by simp) ?_
     dsimp only[Tryz.f19]
     repeat' (first|(apply z07;(first|refine z0p ?_| (apply z0a;(refine z02 z3k rfl rfl ?_))|(apply z0u;(first|refine z1o hv ?_| refine z1o hd ?_))|(apply z1y;(refine z0b z2e ?_))|refine zj4 rfl rfl rfl (by decide) ?_))|(apply z08;(first|refine z0o ?_|apply z09))|(apply z05;(first|apply z06|apply z00|refine z0w ?_| apply z04|apply z01)))
     all_goals try (exfalso;omega)
     refine z16 ?_
     refine z0c (z1u (fun q:Nat × Nat=>⟨35,[(2,.ptr (0,2) 0),(5,I .i64 (q.2:Nat)),(17,.ptr (0,17) 0)],[(17,.siter s q.1),(2,.box [.d (z7s F),.d (.slice (A.map z4n))])],H⟩) (fun q=>q.1≤s.size∧q.2<F.length∧(⟨F,A⟩:Au).acc (q.2:Nat) (cps s q.1)=(⟨F,A⟩:Au).acc 0 (cps s 0)) (fun q=>s.size-q.1) ?_ (0,0) ⟨zAf _,hva.pos,rfl⟩) rfl rfl
     rintro⟨q,k⟩ ⟨i1,i2,i3⟩ ih
     simp only at i1 i2 i3 ih ⊢
     by_cases hlt:q<s.size
     · have hd2:=zko hlt
       have hw:=znq s q hlt
       rw[cps,hd2,List.map_cons,Au.acc_cons] at i3
       simp only at i3
       obtain⟨l,hA,hlo,hnx,n0,n1⟩:=y08 hva k i2 ((Utf8.decode s q).1:Nat)
       simp only at hA n1
       rw[hnx] at i3
       have hst:=zs9 l (hl l (zA2 hA)) hlo ((Utf8.decode s q).1:Nat)
       generalize nxt l ((Utf8.decode s q).1:Nat)=r at *
       by_cases hr:r<0
       · rw[Au.acc_neg _ _ hr] at i3
         rw[← i3]
         repeat' (first|(apply z07;(first|refine z0p ?_| (apply z0a;(first|refine z02 z1m rfl rfl ?_| refine z02 z22 rfl rfl ?_))|(apply z0e;(refine z02 z0s rfl rfl ?_))|(apply z0i;(refine z02 (z0v (ys:=A.map z4n) rfl (idx hA)) rfl rfl ?_))|(apply z0u;(refine z1o hst ?_))|refine z56 hlt rfl rfl (by decide) ?_))|(apply z08;(first|refine z0o ?_|apply z09))|(apply z05;(first|apply z06|apply z00|refine z1d ?_| apply z04|apply z01|apply z03|refine z0f (fun _=>?_) (fun _=>?_))))
         all_goals exact zD76
       · obtain⟨r,rfl⟩:∃ r':Nat,r=r':=⟨r.toNat,by omega⟩
         have ih':=ih (q+(Utf8.decode s q).2,r) ⟨by simp only;omega,by simp only;omega,i3⟩ (by simp only;omega)
         repeat' (first|(apply z07;(first|refine z0p ?_| (apply z0a;(first|refine z02 z1m rfl rfl ?_| refine z02 z22 rfl rfl ?_))|(apply z0e;(refine z02 z0s rfl rfl ?_))|(apply z0i;(refine z02 (z0v (ys:=A.map z4n) rfl (idx hA)) rfl rfl ?_))|(apply z0u;(refine z1o hst ?_))|refine z56 hlt rfl rfl (by decide) ?_))|(apply z08;(first|refine z0o ?_|apply z09))|(apply z05;(first|apply z06|apply z00|refine z1d ?_| refine z0w ?_| apply z04|apply z01|apply z03)))
         all_goals exact zD6
     · rw[cps,zhz (by omega),List.map_nil,Au.acc_nil,Au.fin,zAy (by omega),zA9] at i3
       obtain⟨b,hb⟩:∃ b,F[k]? =some b:=⟨_,zA0 i2⟩
       simp only[List.getD,hb,Option.getD_some] at i3
       rw[← i3]
       repeat' (first|(apply z07;(first|refine z0p ?_| (apply z0a;(first|refine z02 z1m rfl rfl ?_| refine z02 z22 rfl rfl ?_))|(apply z0e;(refine z02 z0s rfl rfl ?_))|(apply z0i;(refine z02 (z0v (ys:=F.map fun b=>[z8c b]) rfl (idx (g:=fun b=>[z8c b]) hb)) rfl rfl ?_))|refine z74 hlt rfl rfl (by decide) ?_))|(apply z08;(first|refine z0o ?_|apply z09))|(apply z05;(first|apply z06|apply z00|refine z0w ?_| refine z0h ?_)))
       all_goals exact zD76
   · rw[zAy (fun h=>h1 h.2)]
     rw[Bool.not_eq_true] at h1
     rw[h1] at hd
     refine z0m Tryz.func19 (by kernel_rfl) rfl (by simp) ?_
     dsimp only[Tryz.f19]
     repeat' (first|(apply z07;(first|refine z0p ?_| (apply z0a;(refine z02 z3k rfl rfl ?_))|(apply z0u;(first|refine z1o hv ?_| refine z1o hd ?_))|(apply z1y;(refine z0b z2e ?_))))|(apply z08;(first|refine z0o ?_|apply z09))|(apply z05;(first|apply z06|apply z00|refine z1d ?_)))
     all_goals exact zD76
 · rw[zAy (fun h=>h0 h.1)]
   generalize vAu a=v at *
   refine z0m Tryz.func19 (by kernel_rfl) rfl (by simp) ?_
   dsimp only[Tryz.f19]
   repeat' (first|(apply z07;(first|refine z0p ?_| (apply z0a;(refine z02 z3k rfl rfl ?_))|(apply z0u;(first|refine z1o hv ?_| refine z1o hd ?_))|(apply z1y;(refine z0b z2e ?_))))|(apply z08;(first|refine z0o ?_|apply z09|refine z1w ?_| refine z61 rfl rfl (fun _=>?_) (fun _=>?_)))|(apply z05;(first|apply z06|apply z00|refine z1d ?_| apply z04|refine zbm rfl (fun _=>?_) (fun _=>?_))))
   all_goals exact zD76
end Go.Proofs.YthdfkabdoidjfaaGreatDoor
