/- A part of the proof: A1 to A5. -/
import Derived.Test.YthdfkabdoidjfaaGreatDoorSt
import Derived.Test.YthdfkabdoidjfaaGreatDoorSy
import Derived.Test.YthdfkabdoidjfaaGreatDoorSc
import Derived.Test.YthdfkabdoidjfaaGreatDoorSr
import Derived.Test.YthdfkabdoidjfaaGreatDoorSv
set_option linter.all false
namespace Go.Proofs.YthdfkabdoidjfaaGreatDoor
open Go.Ab Go.Ax
set_option maxHeartbeats 20000000
set_option maxRecDepth 100000
attribute [local irreducible] Run Ops Op1 z25 Val Tr z0y z1x NF Rel z3j z3l
abbrev z2x (x:Arc):List D:=[z2b x.1,z2b x.2.1,z2t x.2.2]
abbrev z9j (l:List Arc):D:=.slice (l.map z2x)
abbrev z4u (l:List Arc):List D:=[z9j l]
abbrev zea (F:List Bool):D:=.slice (F.map fun b=>[z9m b])
abbrev auc (a:Au):List D:=[zea a.F,.slice (a.A.map z4u)]
abbrev auD (a:Au):D:=.agg (auc a)
def zam (a:Au):Prop:=a.F.length≤9223372036854775807∧a.A.length≤9223372036854775807∧∀ l∈a.A,l.length≤9223372036854775807
def zlu (l:List Arc) (i:Nat):Option Arc:=if i=0 then none else l[i-1]?
theorem z5b (a:Au) (hf:zam a):z0y Tryz.prog 16 [.d (auD a)] (I .i64 (vAu a)):=by
 obtain⟨F,A⟩:=a
 obtain⟨f1,f2,f3⟩:=hf
 simp only at f1 f2 f3
 refine z1p fun H=>?_
 refine z0k Tryz.func16 (by kernel_rfl) rfl (by simp) ?_
 dsimp only[Tryz.f16]
 rw[vAu]
 simp only
 by_cases h1:256<F.length
 · rw[zAz h1]
   all_goals exact zD38
 rw[zAy h1]
 by_cases h2:F.length=0∨A.length≠F.length
 · rw[zAz h2]
   all_goals exact zD38
 rw[zAy h2]
 have e1:A.length=F.length:=by omega
 have e2:0<F.length:=by omega
 repeat' (first|(apply z08;(first|refine z0o ?_| (apply z0a;(refine z02 z1k rfl rfl ?_))|(apply z0e;(refine z02 z0t rfl rfl ?_))|(apply z13;(refine z02 (z1o rfl) rfl rfl ?_))|(apply z1s;(refine z0b z3k ?_))))|(apply z07;(first|refine z0m ?_|apply z09|refine z1u ?_| refine z2p (fun _=>?_) (fun _=>?_)))|(apply z05;(first|apply z06|apply z00|refine z1a ?_| apply z04|apply z01|apply z03|refine z0f (fun _=>?_) (fun _=>?_)| refine z5c rfl (fun _=>?_) (fun _=>?_))))
 all_goals try (exfalso;simp only[zA4] at *;omega)
 refine z19 ?_
 refine z0c (z1v (fun q:Nat=>⟨99,[(1,.ptr (0,1) 0),(3,I .i64 F.length),(25,.d (.slice (A.map z4u))),(26,I .i64 A.length),(27,I .i64 (q:Nat))],[(1,.box [.d (zea F),.d (.slice (A.map z4u))])],H⟩) (fun q=>q≤A.length∧z9w F.length (A.drop q)=z9w F.length A) (fun q=>A.length-q) ?_ 0 ⟨zAf _,rfl⟩) rfl rfl
 rintro i ⟨i1,i2⟩ ih
 by_cases hlt:i<A.length
 · obtain⟨l,hl⟩:∃ l,A[i]? =some l:=⟨_,zA0 hlt⟩
   have hlm:=f3 l (zA2 hl)
   rw[drop_cons hl,z9w] at i2
   repeat' (first|(apply z08;(first|refine z0o ?_| (apply z0a;(refine z02 z2l rfl rfl ?_))|(apply z0i;(refine z02 (z23 (ys:=A.map z4u) rfl (idx hl)) rfl rfl ?_))|(apply z13;(refine z02 (z1o rfl) rfl rfl ?_))))|(apply z07;(first|refine z0m ?_|apply z09))|(apply z05;(first|apply z06|apply z00|apply z04|apply z01|refine z0f (fun _=>?_) (fun _=>?_)| refine z0j ?_)))
   all_goals try (exfalso;omega)
   refine z19 ?_
   refine z0c (z1v (fun q:Nat=>⟨99,[(1,.ptr (0,1) 0),(3,I .i64 F.length),(25,.d (.slice (A.map z4u))),(26,I .i64 A.length),(27,I .i64 (i:Nat)),(5,.d (z9j l)),(31,.d (z9j l)),(32,I .i64 l.length),(33,I .i64 (q:Nat))],[(1,.box [.d (zea F),.d (.slice (A.map z4u))])],H⟩) (fun q=>q≤l.length∧zh9 F.length (zlu l q) (l.drop q)=zh9 F.length none l∧∀ y,zlu l q=some y→0≤y.1∧y.1≤y.2.1∧y.2.1≤1114111) (fun q=>l.length-q) ?_ 0 ⟨zAf _,rfl,by intro y hy;cases hy⟩) rfl rfl
   rintro k ⟨k1,k2,k3⟩ ihk
   by_cases hk:k<l.length
   · obtain⟨x,hx⟩:∃ x,l[k]? =some x:=⟨_,zA0 hk⟩
     have hpk:zlu l (k+1)=some x:=by rw[zlu,zAy (by omega)];exact hx
     rw[drop_cons hx,z9s] at k2
     by_cases hb:zra F.length x=true
     · rw[zAz hb] at k2
       rw[← k2,zAz (by decide)] at i2
       rw[← i2]
       simp only[zra,zAu,zA3] at hb
       repeat' (first|(apply z08;(first|refine z0o ?_| (apply z0a;(first|refine z02 z1k rfl rfl ?_| refine z02 z2a rfl rfl ?_))|(apply z0e;(refine z02 z0t rfl rfl ?_))|(apply z0i;(refine z02 (z23 (ys:=l.map z2x) rfl (idx hx)) rfl rfl ?_))|(apply z0r;(refine z02 (z0s z0w) rfl rfl ?_))|(apply z0d;(refine z29 ?_))|(apply z0g;(refine z0b z1f ?_))))|(apply z07;(first|refine z0m ?_|apply z09))|(apply z05;(first|apply z06|apply z00|refine z0v ?_| apply z04|apply z01|apply z2c|apply z03|refine z0f (fun _=>?_) (fun _=>?_)| refine z0j ?_))|(apply z2d;(first|(apply z0u;refine z1h mix ?_)|refine z1w ?_| refine z2e ?_| (apply z0l;(refine z0h z1k rfl rfl ?_))|(apply z11;(refine z0h z0t rfl rfl ?_))|(apply z1m;(refine z0h (z1g z0w) rfl rfl ?_))|(refine z2f (fun hg=>?_) (fun hg=>?_)<;> simp only[hg] <;> (try simp only[zA3,zA5,zA6,zA8] at hg)))))
       all_goals exact zD103
     · rw[zAy hb] at k2
       simp only[zra,zAu,zA3,not_or] at hb
       cases k with
       | zero =>
        rw[show zlu l 0=none from rfl] at k2
        simp only at k2
        have ihk':=ihk 1 ⟨by omega,by rw[hpk];exact k2,fun y hy=>by rw[hpk] at hy;cases hy;omega⟩ (by omega)
        repeat' (first|(apply z08;(first|refine z0o ?_| (apply z0a;(first|refine z02 z1k rfl rfl ?_| refine z02 z2a rfl rfl ?_))|(apply z0e;(refine z02 z0t rfl rfl ?_))|(apply z0i;(refine z02 (z23 (ys:=l.map z2x) rfl (idx hx)) rfl rfl ?_))|(apply z0r;(refine z02 (z0s z0w) rfl rfl ?_))|(apply z0d;(refine z29 ?_))|(apply z0g;(refine z0b z1f ?_))))|(apply z07;(first|refine z0m ?_|apply z09))|(apply z05;(first|apply z06|apply z00|refine z0v ?_| apply z04|apply z01|apply z2c|apply z03|refine z0f (fun _=>?_) (fun _=>?_)| refine z0j ?_))|(apply z2d;(first|(apply z0u;refine z1h mix ?_)|refine z1w ?_| refine z2e ?_)))
        all_goals exact zD96
       | succ k =>
        obtain⟨y,hy⟩:∃ y,l[k]? =some y:=⟨_,zA0 (by omega)⟩
        have hpy:zlu l (k+1)=some y:=by rw[zlu,zAy (by omega)];exact hy
        have hyi:l[(((k+1:Nat):Int)-1).toNat]? =some y:=by rw[show (((k+1:Nat):Int)-1).toNat=k by omega];exact hy
        have hyr:=k3 y hpy
        rw[hpy] at k2
        simp only at k2
        by_cases ho:zrk y x=true
        · rw[zAz ho] at k2
          rw[← k2,zAz (by decide)] at i2
          rw[← i2]
          simp only[zrk,zAu,zA7,zA3] at ho
          repeat' (first|(apply z08;(first|refine z0o ?_| (apply z0a;(first|refine z02 z1k rfl rfl ?_| refine z02 z2a rfl rfl ?_))|(apply z0e;(refine z02 z0t rfl rfl ?_))|(apply z0i;(refine z02 (z23 (ys:=l.map z2x) rfl (idx hx)) rfl rfl ?_))|(apply z0r;(refine z02 (z0s z0w) rfl rfl ?_))|(apply z0d;(refine z29 ?_))|(apply z0g;(refine z0b z1f ?_))))|(apply z07;(first|refine z0m ?_|apply z09))|(apply z05;(first|apply z06|apply z00|refine z0v ?_| apply z04|apply z01|apply z2c|apply z03|refine z0f (fun _=>?_) (fun _=>?_)| refine z0j ?_))|(apply z2d;(first|(apply z0u;refine z1h mix ?_)|refine z1w ?_| refine z2e ?_| (apply z0l;(first|refine z0h z1k rfl rfl ?_| refine z0h z2l rfl rfl ?_))|(apply z11;(first|refine z0h z0t rfl rfl ?_| refine z0h (z6g rfl rfl) rfl rfl ?_))|(apply z0n;(refine z0h (z23 (ys:=l.map z2x) rfl (zgm hyi)) rfl rfl ?_))|(apply z1m;(first|refine z0h (z0s (zb9 (by omega) (by omega))) rfl rfl ?_| refine z0h (z1g z0w) rfl rfl ?_))|(refine z2f (fun hg=>?_) (fun hg=>?_)<;> simp only[hg] <;> (try simp only[zA3,zA5,zA6,zA8] at hg)))))
          all_goals exact zD103
        · rw[zAy ho] at k2
          simp only[zrk,zAu,zA7,zA3,not_or,not_and] at ho
          have ihk':=ihk (k+2) ⟨by omega,by rw[hpk];exact k2,fun y hy=>by rw[hpk] at hy;cases hy;omega⟩ (by omega)
          repeat' (first|(apply z08;(first|refine z0o ?_| (apply z0a;(first|refine z02 z1k rfl rfl ?_| refine z02 z2a rfl rfl ?_))|(apply z0e;(refine z02 z0t rfl rfl ?_))|(apply z0i;(refine z02 (z23 (ys:=l.map z2x) rfl (idx hx)) rfl rfl ?_))|(apply z0r;(refine z02 (z0s z0w) rfl rfl ?_))|(apply z0d;(refine z29 ?_))|(apply z0g;(refine z0b z1f ?_))))|(apply z07;(first|refine z0m ?_|apply z09))|(apply z05;(first|apply z06|apply z00|refine z0v ?_| apply z04|apply z01|apply z2c|apply z03|refine z0f (fun _=>?_) (fun _=>?_)| refine z0j ?_))|(apply z2d;(first|(apply z0u;refine z1h mix ?_)|refine z1w ?_| refine z2e ?_| (apply z0l;(first|refine z0h z1k rfl rfl ?_| refine z0h z2l rfl rfl ?_))|(apply z11;(first|refine z0h z0t rfl rfl ?_| refine z0h (z6g rfl rfl) rfl rfl ?_))|(apply z0n;(refine z0h (z23 (ys:=l.map z2x) rfl (zgm hyi)) rfl rfl ?_))|(apply z1m;(first|refine z0h (z0s (zb9 (by omega) (by omega))) rfl rfl ?_| refine z0h (z1g z0w) rfl rfl ?_))|(refine z2f (fun hg=>?_) (fun hg=>?_)<;> simp only[hg] <;> (try simp only[zA3,zA5,zA6,zA8] at hg)))))
          all_goals exact zD96
   · exact zD48
 · obtain rfl:i=A.length:=by omega
   rw[zAs,z9w] at i2
   rw[← i2]
   repeat' (first|(apply z08;(refine z0o ?_))|(apply z07;(first|refine z0m ?_|apply z09))|(apply z05;(first|apply z06|apply z00|apply z04|apply z01|refine z0f (fun _=>?_) (fun _=>?_)| refine z0j ?_)))
   all_goals exact zD103
theorem zw4 (a:Au) (hf:zam a):z0y Tryz.prog 17 [.d (auD a)] (I .i64 (vAu a)):=by
 obtain⟨F,A⟩:=a
 obtain⟨f1,f2,f3⟩:=hf
 simp only at f1 f2 f3
 refine z1p fun H=>?_
 refine z0k Tryz.func17 (by kernel_rfl) rfl (by simp) ?_
 dsimp only[Tryz.f17]
 rw[vAu]
 simp only
 by_cases h1:256<F.length
 · rw[zAz h1]
   all_goals exact zD39
 rw[zAy h1]
 by_cases h2:F.length=0∨A.length≠F.length
 · rw[zAz h2]
   all_goals exact zD39
 rw[zAy h2]
 have e1:A.length=F.length:=by omega
 have e2:0<F.length:=by omega
 repeat' (first|(apply z08;(first|refine z0o ?_| (apply z0a;(refine z02 z1k rfl rfl ?_))|(apply z0e;(refine z02 z0t rfl rfl ?_))|(apply z13;(refine z02 (z1o rfl) rfl rfl ?_))|(apply z1s;(refine z0b z3k ?_))))|(apply z07;(first|refine z0m ?_|apply z09|refine z1u ?_| refine z2p (fun _=>?_) (fun _=>?_)))|(apply z05;(first|apply z06|apply z00|refine z1a ?_| apply z04|apply z01|refine z0f (fun _=>?_) (fun _=>?_)| refine z5c rfl (fun _=>?_) (fun _=>?_))))
 all_goals try (exfalso;simp only[zA4] at *;omega)
 refine z19 ?_
 refine z0c (z1v (fun q:Nat=>⟨105,[(1,.ptr (0,1) 0),(3,I .i64 F.length),(23,.d (.slice (A.map z4u))),(24,I .i64 A.length),(25,I .i64 (q:Nat))],[(1,.box [.d (zea F),.d (.slice (A.map z4u))])],H⟩) (fun q=>q≤A.length∧z9w F.length (A.drop q)=z9w F.length A) (fun q=>A.length-q) ?_ 0 ⟨zAf _,rfl⟩) rfl rfl
 rintro i ⟨i1,i2⟩ ih
 by_cases hlt:i<A.length
 · obtain⟨l,hl⟩:∃ l,A[i]? =some l:=⟨_,zA0 hlt⟩
   have hlm:=f3 l (zA2 hl)
   rw[drop_cons hl,z9w] at i2
   repeat' (first|(apply z08;(first|refine z0o ?_| (apply z0a;(refine z02 z2l rfl rfl ?_))|(apply z0i;(refine z02 (z23 (ys:=A.map z4u) rfl (idx hl)) rfl rfl ?_))|(apply z13;(refine z02 (z1o rfl) rfl rfl ?_))))|(apply z07;(first|refine z0m ?_|apply z09))|(apply z05;(first|apply z06|apply z00|apply z04|apply z01|refine z0f (fun _=>?_) (fun _=>?_)| refine z0j ?_)))
   all_goals try (exfalso;omega)
   refine z19 ?_
   refine z0c (z1v (fun q:Nat=>⟨105,[(1,.ptr (0,1) 0),(3,I .i64 F.length),(23,.d (.slice (A.map z4u))),(24,I .i64 A.length),(25,I .i64 (i:Nat)),(5,.d (z9j l)),(29,.d (z9j l)),(30,I .i64 l.length),(31,I .i64 (q:Nat))],[(1,.box [.d (zea F),.d (.slice (A.map z4u))])],H⟩) (fun q=>q≤l.length∧zh9 F.length (zlu l q) (l.drop q)=zh9 F.length none l∧∀ y,zlu l q=some y→0≤y.1∧y.1≤y.2.1∧y.2.1≤1114111) (fun q=>l.length-q) ?_ 0 ⟨zAf _,rfl,by intro y hy;cases hy⟩) rfl rfl
   rintro k ⟨k1,k2,k3⟩ ihk
   by_cases hk:k<l.length
   · obtain⟨x,hx⟩:∃ x,l[k]? =some x:=⟨_,zA0 hk⟩
     have hpk:zlu l (k+1)=some x:=by rw[zlu,zAy (by omega)];exact hx
     rw[drop_cons hx,z9s] at k2
     by_cases hb:zra F.length x=true
     · rw[zAz hb] at k2
       rw[← k2,zAz (by decide)] at i2
       rw[← i2]
       simp only[zra,zAu,zA3] at hb
       repeat' (first|(apply z08;(first|refine z0o ?_| (apply z0a;(first|refine z02 z1k rfl rfl ?_| refine z02 z2a rfl rfl ?_))|(apply z0e;(refine z02 z0t rfl rfl ?_))|(apply z0i;(refine z02 (z23 (ys:=l.map z2x) rfl (idx hx)) rfl rfl ?_))|(apply z0r;(refine z02 (z0s z0w) rfl rfl ?_))|(apply z0d;(refine z29 ?_))|(apply z0g;(refine z0b z1f ?_))))|(apply z07;(first|refine z0m ?_|apply z09|refine z1u ?_| refine z2p (fun _=>?_) (fun _=>?_)))|(apply z05;(first|apply z06|apply z00|refine z1a ?_| refine z0v ?_| apply z04|apply z01|apply z2c|apply z03|refine z0f (fun _=>?_) (fun _=>?_)| refine z0j ?_))|(apply z2d;(first|(apply z0u;refine z1h mix ?_)|refine z1w ?_| refine z2e ?_| (apply z0l;(refine z0h z1k rfl rfl ?_))|(apply z11;(refine z0h z0t rfl rfl ?_))|(apply z1m;(refine z0h (z1g z0w) rfl rfl ?_))|(refine z2f (fun hg=>?_) (fun hg=>?_)<;> simp only[hg] <;> (try simp only[zA3,zA5,zA6,zA8] at hg)))))
       all_goals exact zD104
     · rw[zAy hb] at k2
       simp only[zra,zAu,zA3,not_or] at hb
       cases k with
       | zero =>
        rw[show zlu l 0=none from rfl] at k2
        simp only at k2
        have ihk':=ihk 1 ⟨by omega,by rw[hpk];exact k2,fun y hy=>by rw[hpk] at hy;cases hy;omega⟩ (by omega)
        repeat' (first|(apply z08;(first|refine z0o ?_| (apply z0a;(first|refine z02 z1k rfl rfl ?_| refine z02 z2a rfl rfl ?_))|(apply z0e;(refine z02 z0t rfl rfl ?_))|(apply z0i;(refine z02 (z23 (ys:=l.map z2x) rfl (idx hx)) rfl rfl ?_))|(apply z0r;(refine z02 (z0s z0w) rfl rfl ?_))|(apply z0d;(refine z29 ?_))|(apply z0g;(refine z0b z1f ?_))))|(apply z07;(first|refine z0m ?_|apply z09|refine z1u ?_| refine z2p (fun _=>?_) (fun _=>?_)))|(apply z05;(first|apply z06|apply z00|refine z1a ?_| refine z0v ?_| apply z04|apply z01|apply z2c|apply z03|refine z0f (fun _=>?_) (fun _=>?_)| refine z0j ?_))|(apply z2d;(first|(apply z0u;refine z1h mix ?_)|refine z1w ?_| refine z2e ?_)))
        all_goals exact zD96
       | succ k =>
        obtain⟨y,hy⟩:∃ y,l[k]? =some y:=⟨_,zA0 (by omega)⟩
        have hpy:zlu l (k+1)=some y:=by rw[zlu,zAy (by omega)];exact hy
        have hyi:l[(((k+1:Nat):Int)-1).toNat]? =some y:=by rw[show (((k+1:Nat):Int)-1).toNat=k by omega];exact hy
        have hyr:=k3 y hpy
        rw[hpy] at k2
        simp only at k2
        by_cases ho:zrk y x=true
        · rw[zAz ho] at k2
          rw[← k2,zAz (by decide)] at i2
          rw[← i2]
          simp only[zrk,zAu,zA7,zA3] at ho
          repeat' (first|(apply z08;(first|refine z0o ?_| (apply z0a;(first|refine z02 z1k rfl rfl ?_| refine z02 z2a rfl rfl ?_))|(apply z0e;(refine z02 z0t rfl rfl ?_))|(apply z0i;(refine z02 (z23 (ys:=l.map z2x) rfl (idx hx)) rfl rfl ?_))|(apply z0r;(refine z02 (z0s z0w) rfl rfl ?_))|(apply z0d;(refine z29 ?_))|(apply z0g;(refine z0b z1f ?_))))|(apply z07;(first|refine z0m ?_|apply z09|refine z1u ?_| refine z2p (fun _=>?_) (fun _=>?_)))|(apply z05;(first|apply z06|apply z00|refine z1a ?_| refine z0v ?_| apply z04|apply z01|apply z2c|apply z03|refine z0f (fun _=>?_) (fun _=>?_)| refine z0j ?_))|(apply z2d;(first|(apply z0u;refine z1h mix ?_)|refine z1w ?_| refine z2e ?_| (apply z0l;(first|refine z0h z1k rfl rfl ?_| refine z0h z2l rfl rfl ?_))|(apply z11;(first|refine z0h z0t rfl rfl ?_| refine z0h (z6g rfl rfl) rfl rfl ?_))|(apply z0n;(refine z0h (z23 (ys:=l.map z2x) rfl (zgm hyi)) rfl rfl ?_))|(apply z1m;(first|refine z0h (z0s (zb9 (by omega) (by omega))) rfl rfl ?_| refine z0h (z1g z0w) rfl rfl ?_))|(refine z2f (fun hg=>?_) (fun hg=>?_)<;> simp only[hg] <;> (try simp only[zA3,zA5,zA6,zA8] at hg)))))
          all_goals exact zD104
        · rw[zAy ho] at k2
          simp only[zrk,zAu,zA7,zA3,not_or,not_and] at ho
          have ihk':=ihk (k+2) ⟨by omega,by rw[hpk];exact k2,fun y hy=>by rw[hpk] at hy;cases hy;omega⟩ (by omega)
          repeat' (first|(apply z08;(first|refine z0o ?_| (apply z0a;(first|refine z02 z1k rfl rfl ?_| refine z02 z2a rfl rfl ?_))|(apply z0e;(refine z02 z0t rfl rfl ?_))|(apply z0i;(refine z02 (z23 (ys:=l.map z2x) rfl (idx hx)) rfl rfl ?_))|(apply z0r;(refine z02 (z0s z0w) rfl rfl ?_))|(apply z0d;(refine z29 ?_))|(apply z0g;(refine z0b z1f ?_))))|(apply z07;(first|refine z0m ?_|apply z09|refine z1u ?_| refine z2p (fun _=>?_) (fun _=>?_)))|(apply z05;(first|apply z06|apply z00|refine z1a ?_| refine z0v ?_| apply z04|apply z01|apply z2c|apply z03|refine z0f (fun _=>?_) (fun _=>?_)| refine z0j ?_))|(apply z2d;(first|(apply z0u;refine z1h mix ?_)|refine z1w ?_| refine z2e ?_| (apply z0l;(first|refine z0h z1k rfl rfl ?_| refine z0h z2l rfl rfl ?_))|(apply z11;(first|refine z0h z0t rfl rfl ?_| refine z0h (z6g rfl rfl) rfl rfl ?_))|(apply z0n;(refine z0h (z23 (ys:=l.map z2x) rfl (zgm hyi)) rfl rfl ?_))|(apply z1m;(first|refine z0h (z0s (zb9 (by omega) (by omega))) rfl rfl ?_| refine z0h (z1g z0w) rfl rfl ?_))|(refine z2f (fun hg=>?_) (fun hg=>?_)<;> simp only[hg] <;> (try simp only[zA3,zA5,zA6,zA8] at hg)))))
          all_goals exact zD96
   · exact zD48
 · obtain rfl:i=A.length:=by omega
   rw[zAs,z9w] at i2
   rw[← i2]
   repeat' (first|(apply z08;(refine z0o ?_))|(apply z07;(first|refine z0m ?_|apply z09))|(apply z05;(first|apply z06|apply z00|apply z04|apply z01|refine z0f (fun _=>?_) (fun _=>?_)| refine z0j ?_)))
   all_goals exact zD104
def y2l (a b:Int):Int:=if a<b then -1 else if b<a then 1 else 0
theorem zg0 (a:Int):z0y Tryz.prog 112 [I .i32 a] (B false):=by
 refine z1p fun H=>?_
 refine z0k Tryz.func112 (by kernel_rfl) rfl (by simp) ?_
 dsimp only[Tryz.f112]
 repeat' (first|(apply z08;(refine z0o ?_))|(apply z07;(first|refine z0m ?_|apply z09))|(apply z05;(first|apply z06|apply z00)))
 all_goals try (exfalso;omega)
 all_goals exact z0p Tryz.func112 _ (zp0 rfl (by simp only[ne_eq,not_true_eq_false,decide_false];rfl)) ⟨rfl,rfl⟩
theorem zql (a b:Int):z0y Tryz.prog 76 [I .i32 a,I .i32 b] (I .i64 (y2l a b)):=by
 refine z1p fun H=>?_
 have h1:=zg0 a
 have h2:=zg0 b
 refine z0k Tryz.func76 (by kernel_rfl) rfl (by simp) ?_
 dsimp only[Tryz.f76]
 rw[y2l]
 by_cases c1:a<b
 · rw[zAz c1]
   all_goals exact zD31
 · rw[zAy c1]
   by_cases c2:b<a
   · rw[zAz c2]
     all_goals exact zD31
   · rw[zAy c2]
     all_goals exact zD31
theorem zre (x:Arc) (c:Int):z0y Tryz.prog 75 [.d (.agg (z2x x)),I .i32 c] (I .i64 (y2l x.2.1 c)):=by
 refine z1p fun H=>?_
 have h1:=zql x.2.1 c
 refine z0k Tryz.func75 (by kernel_rfl) rfl (by simp) ?_
 dsimp only[Tryz.f75]
 repeat' (first|(apply z08;(first|refine z0o ?_| (apply z0a;(refine z02 z1k rfl rfl ?_))|(apply z0e;(refine z02 z0t rfl rfl ?_))|(apply z0q;(refine z0z h1 ?_))|(apply z1s;(refine z0b z3k ?_))))|(apply z07;(first|refine z0m ?_|apply z09))|(apply z05;(first|apply z06|apply z00)))
 all_goals try (exfalso;omega)
 all_goals exact z0p Tryz.func75 _ z1c ⟨rfl,rfl⟩
theorem zri (l:List Arc) (hl:l.length≤4611686018427387904) (ho:okA none l) (c:Int):z0y Tryz.prog 74 [.d (z9j l),I .i32 c,.fn (.func 75) [] []] (.tup [I .i64 (zh8 c l:Nat),B (match l[zh8 c l]? with|some x=>decide (x.2.1=c)|none=>false)]):=by
 refine z1p fun H=>?_
 have hmono:=znb ho
 refine z0k Tryz.func74 (by kernel_rfl) rfl (by simp) ?_
 dsimp only[Tryz.f74]
 repeat' (first|(apply z08;(first|refine z0o ?_| (apply z13;(refine z02 (z1o rfl) rfl rfl ?_))))|(apply z07;(first|refine z0m ?_|apply z09))|(apply z05;(first|apply z06|apply z00|apply z01)))
 all_goals try (exfalso;omega)
 refine z19 ?_
 refine z0c (z1v (fun q:Nat × Nat=>⟨49,[(0,.d (z9j l)),(1,I .i32 c),(2,.fn (.func 75) [] []),(8,I .i64 l.length),(9,I .i64 (q.1:Nat)),(10,I .i64 (q.2:Nat))],[],H⟩) (fun q=>q.1≤q.2∧q.2≤l.length∧(∀ p x,p<q.1→l[p]? =some x→x.2.1<c)∧∀ p x,q.2≤p→l[p]? =some x→¬ x.2.1<c) (fun q=>q.2-q.1) ?_ (0,l.length) ⟨zAf _,zAj _,fun p x h=>absurd h (Nat.not_lt_zero _),fun p x h1 h2=>by have:=(zA1.1 h2).1;omega⟩) rfl rfl
 rintro⟨i,j⟩ ⟨i1,i2,i3,i4⟩ ih
 simp only at i1 i2 i3 i4 ih ⊢
 by_cases hlt:i<j
 · have hh:((((i:Nat):Int)+((j:Nat):Int)) / 2)=(((i+j) / 2:Nat):Int):=by omega
   obtain⟨x,hx⟩:∃ x,l[(i+j) / 2]? =some x:=⟨_,zA0 (by omega)⟩
   have hxi:l[((((i:Nat):Int)+((j:Nat):Int)) / 2).toNat]? =some x:=by rw[hh,zA9];exact hx
   have hc:=zre x c
   rw[y2l] at hc
   by_cases hlo:x.2.1<c
   · rw[zAz hlo] at hc
     have ih':=ih ((i+j) / 2+1,j) ⟨by simp only;omega,i2,fun p y hp hy=>by have:=hmono p _ y x (by simp only at hp;omega) hy hx;omega,i4⟩ (by simp only;omega)
     rw[show (((i+j) / 2+1:Nat):Int)=(((i:Nat):Int)+((j:Nat):Int)) / 2+1 by omega] at ih'
     repeat' (first|(apply z08;(first|refine z0o ?_| (apply z0a;(refine z02 z2a rfl rfl ?_))|(apply z0i;(refine z02 (z23 (ys:=l.map z2x) rfl (zgm hxi)) rfl rfl ?_))|(apply z0r;(first|refine z02 (zhc (by omega)) rfl rfl ?_| refine z02 (z0s z0w) rfl rfl ?_))|(apply z0q;(refine zbo (first:=[]) (cap:=[]) (ps:=[.d (.agg (z2x x)),I .i32 c]) hc rfl rfl (by decide) ?_))|(apply z5h;(first|refine z02 (z57 rfl rfl (zje (by omega) (by omega))) rfl rfl ?_| refine z02 (z57 rfl rfl z0w) rfl rfl ?_))))|(apply z07;(first|refine z0m ?_|apply z09|refine z1u ?_| refine z2p (fun _=>?_) (fun _=>?_)))|(apply z05;(first|apply z06|apply z00|refine z1a ?_| apply z04|apply z01|apply z03|refine z0f (fun _=>?_) (fun _=>?_)| refine z0j ?_)))
     all_goals exact zD14
   · have ih':=ih (i,(i+j) / 2) ⟨by simp only;omega,by simp only;omega,i3,fun p y hp hy=>by have:=hmono _ p x y hp hx hy;omega⟩ (by simp only;omega)
     rw[hh.symm] at ih'
     rw[zAy hlo] at hc
     have hc0:0≤(if c<x.2.1 then (1:Int) else 0):=by split <;> omega
     generalize (if c<x.2.1 then (1:Int) else 0)=cc at *
     repeat' (first|(apply z08;(first|refine z0o ?_| (apply z0a;(refine z02 z2a rfl rfl ?_))|(apply z0i;(refine z02 (z23 (ys:=l.map z2x) rfl (zgm hxi)) rfl rfl ?_))|(apply z0r;(first|refine z02 (zhc (by omega)) rfl rfl ?_| refine z02 (z0s z0w) rfl rfl ?_))|(apply z0q;(refine zbo (first:=[]) (cap:=[]) (ps:=[.d (.agg (z2x x)),I .i32 c]) hc rfl rfl (by decide) ?_))|(apply z5h;(first|refine z02 (z57 rfl rfl (zje (by omega) (by omega))) rfl rfl ?_| refine z02 (z57 rfl rfl z0w) rfl rfl ?_))))|(apply z07;(first|refine z0m ?_|apply z09|refine z1u ?_| refine z2p (fun _=>?_) (fun _=>?_)))|(apply z05;(first|apply z06|apply z00|apply z04|apply z01|apply z03|refine z0f (fun _=>?_) (fun _=>?_)| refine z0j ?_)))
     all_goals exact zD14
 · obtain rfl:i=j:=by omega
   have hcut:=y2g (c:=c) i2 i3 (fun x hx=>i4 i x (zAj _) hx)
   rw[← hcut]
   clear ih
   by_cases hin:i<l.length
   · obtain⟨x,hx⟩:∃ x,l[i]? =some x:=⟨_,zA0 hin⟩
     have hnl:=i4 i x (zAj _) hx
     have hc:=zre x c
     rw[y2l,zAy hnl] at hc
     rw[hx]
     simp only
     by_cases he:c<x.2.1
     · rw[zAz he] at hc
       rw[show decide (x.2.1=c)=false by simp;omega]
       all_goals exact zD25
     · rw[zAy he] at hc
       rw[show decide (x.2.1=c)=true by simp;omega]
       all_goals exact zD25
   · rw[zAv (by omega)]
     repeat' (first|(apply z08;(first|refine z0o ?_| (apply z0r;(first|refine z02 (z0s z0w) rfl rfl ?_| refine z02 (zhc (by omega)) rfl rfl ?_))|(apply z5h;(first|refine z02 (z57 rfl rfl (zje (by omega) (by omega))) rfl rfl ?_| refine z02 (z57 rfl rfl z0w) rfl rfl ?_))))|(apply z07;(first|refine z0m ?_|apply z09|refine z1u ?_| refine z2p (fun _=>?_) (fun _=>?_)))|(apply z05;(first|apply z06|apply z00|apply z04|apply z01|refine z0f (fun _=>?_) (fun _=>?_)| refine z0j ?_)))
     all_goals try (exfalso;omega)
     all_goals exact z0p Tryz.func74 _ z52 ⟨rfl,rfl⟩
theorem zqo (l:List Arc) (hl:l.length≤4611686018427387904) (ho:okA none l) (c:Int):z0y Tryz.prog 41 [.d (z9j l),I .i32 c] (I .i64 (nxt l c)):=by
 refine z1p fun H=>?_
 have hb:=zri l hl ho c
 have hcl:=zru c l
 rw[zt5 ho]
 refine z0k Tryz.func41 (by kernel_rfl) rfl (by simp) ?_
 dsimp only[Tryz.f41]
 by_cases hin:zh8 c l<l.length
 · obtain⟨x,hx⟩:∃ x,l[zh8 c l]? =some x:=⟨_,zA0 hin⟩
   rw[hx] at hb ⊢
   simp only at hb ⊢
   generalize zh8 c l=i at *
   by_cases hc:c<x.1
   · rw[zAz hc]
     all_goals exact zD30
   · rw[zAy hc]
     all_goals exact zD30
 · rw[zAv (by omega)] at hb ⊢
   simp only at hb ⊢
   have:zh8 c l=l.length:=by omega
   rw[this] at hb
   repeat' (first|(apply z08;(first|refine z0o ?_| (apply z13;(refine z02 (z1o rfl) rfl rfl ?_))|(apply z0q;(refine zbo (first:=[]) (cap:=[]) (ps:=[.d (z9j l),I .i32 c,.fn (.func 75) [] []]) hb rfl rfl (by decide) ?_))))|(apply z07;(first|refine z0m ?_|apply z09|refine z1u ?_| refine z2p (fun _=>?_) (fun _=>?_)))|(apply z05;(first|apply z06|apply z00|refine z1a ?_)))
   all_goals try (exfalso;omega)
   all_goals exact z0p Tryz.func41 _ z1c ⟨rfl,rfl⟩
theorem zz3 (a:Au) (q:Nat) (hq:q<a.A.length) (hl:∀ l∈a.A,l.length≤4611686018427387904) (c:Int):z0y Tryz.prog 43 [.d (auD a),I .i64 (q:Nat),I .i32 c] (I .i64 (a.nx q c)):=by
 obtain⟨F,A⟩:=a
 simp only at hq hl
 obtain⟨l,hA⟩:∃ l,A[q]? =some l:=⟨_,zA0 hq⟩
 have hll:=hl l (zA2 hA)
 have hnx:(⟨F,A⟩:Au).nx (q:Nat) c=nxt l c:=by rw[Au.nx,Au.arcs,zAy (by omega),zA9,List.getD,hA];rfl
 rw[hnx]
 refine z1p fun H=>?_
 refine z0k Tryz.func43 (by kernel_rfl) rfl (by simp) ?_
 dsimp only[Tryz.f43]
 repeat' (first|(apply z08;(first|refine z0o ?_| (apply z0a;(first|refine z02 z1k rfl rfl ?_| refine z02 z2l rfl rfl ?_))|(apply z0e;(refine z02 z0t rfl rfl ?_))|(apply z0i;(refine z02 (z23 (ys:=A.map z4u) rfl (idx hA)) rfl rfl ?_))|(apply z13;(refine z02 (z1o rfl) rfl rfl ?_))|(apply z1s;(refine z0b z3k ?_))))|(apply z07;(first|refine z0m ?_|apply z09))|(apply z05;(first|apply z06|apply z00|refine z0v ?_| apply z04|apply z01)))
 all_goals try (exfalso;omega)
 refine z19 ?_
 refine z0c (z1v (fun k:Nat=>⟨34,[(2,I .i32 c),(15,.d (z9j l)),(16,I .i64 l.length),(17,I .i64 (k:Nat))],[],H⟩) (fun k=>k≤l.length∧nxt (l.drop k) c=nxt l c) (fun k=>l.length-k) ?_ 0 ⟨zAf _,rfl⟩) rfl rfl
 rintro k ⟨k1,k2⟩ ih
 by_cases hlt:k<l.length
 · obtain⟨x,hx⟩:∃ x,l[k]? =some x:=⟨_,zA0 hlt⟩
   rw[drop_cons hx,nxt] at k2
   by_cases hc:x.1≤c∧c≤x.2.1
   · rw[zAz hc] at k2
     rw[← k2]
     repeat' (first|(apply z08;(first|refine z0o ?_| (apply z0a;(first|refine z02 z1k rfl rfl ?_| refine z02 z2a rfl rfl ?_))|(apply z0e;(refine z02 z0t rfl rfl ?_))|(apply z0i;(refine z02 (z23 (ys:=l.map z2x) rfl (idx hx)) rfl rfl ?_))|(apply z0r;(refine z02 (z0s z0w) rfl rfl ?_))|(apply z0d;(refine z29 ?_))|(apply z0g;(refine z0b z1f ?_))))|(apply z07;(first|refine z0m ?_|apply z09|refine z1u ?_| refine z2p (fun _=>?_) (fun _=>?_)))|(apply z05;(first|apply z06|apply z00|refine z0v ?_| apply z04|apply z01|apply z03|refine z0f (fun _=>?_) (fun _=>?_)| refine z0j ?_)))
     all_goals exact zD108
   · rw[zAy hc] at k2
     have ih':=ih (k+1) ⟨by omega,k2⟩ (by omega)
     repeat' (first|(apply z08;(first|refine z0o ?_| (apply z0a;(first|refine z02 z1k rfl rfl ?_| refine z02 z2a rfl rfl ?_))|(apply z0e;(refine z02 z0t rfl rfl ?_))|(apply z0i;(refine z02 (z23 (ys:=l.map z2x) rfl (idx hx)) rfl rfl ?_))|(apply z0r;(refine z02 (z0s z0w) rfl rfl ?_))|(apply z0d;(refine z29 ?_))|(apply z0g;(refine z0b z1f ?_))))|(apply z07;(first|refine z0m ?_|apply z09|refine z1u ?_| refine z2p (fun _=>?_) (fun _=>?_)))|(apply z05;(first|apply z06|apply z00|refine z0v ?_| apply z04|apply z01|apply z03|refine z0f (fun _=>?_) (fun _=>?_)| refine z0j ?_)))
     all_goals exact zD14
 · obtain rfl:k=l.length:=by omega
   rw[zAs,nxt] at k2
   rw[← k2]
   repeat' (first|(apply z08;(refine z0o ?_))|(apply z07;(first|refine z0m ?_|apply z09))|(apply z05;(first|apply z06|apply z00|apply z04|apply z01|refine z0f (fun _=>?_) (fun _=>?_)| refine z0j ?_)))
   all_goals exact zD108
theorem zsr (a:Au) (q:Int) (hq:q<0) (c:Int):z0y Tryz.prog 43 [.d (auD a),I .i64 q,I .i32 c] (I .i64 (-1)):=by
 obtain⟨F,A⟩:=a
 refine z1p fun H=>?_
 refine z0k Tryz.func43 (by kernel_rfl) rfl (by simp) ?_
 dsimp only[Tryz.f43]
 repeat' (first|(apply z08;(first|refine z0o ?_| (apply z0a;(refine z02 z1k rfl rfl ?_))|(apply z0e;(refine z02 z0t rfl rfl ?_))|(apply z1s;(refine z0b z3k ?_))))|(apply z07;(first|refine z0m ?_|apply z09))|(apply z05;(first|apply z06|apply z00|apply z04|refine z0f (fun _=>?_) (fun _=>?_))))
 all_goals exact zD108
def zsm (x:Arc):Int:=if x.1<55296∨57343<x.1 then x.1 else if 57343<x.2.1 then 57344 else -1
theorem zpy (x:Arc):z0y Tryz.prog 67 [.d (.agg (z2x x))] (I .i32 (zsm x)):=by
 refine z1p fun H=>?_
 refine z0k Tryz.func67 (by kernel_rfl) rfl (by simp) ?_
 dsimp only[Tryz.f67]
 rw[zsm]
 by_cases h1:x.1<55296∨57343<x.1
 · rw[zAz h1]
   all_goals exact zD22
 · rw[zAy h1]
   by_cases h2:57343<x.2.1
   · rw[zAz h2]
     all_goals exact zD22
   · rw[zAy h2]
     all_goals exact zD22
def z4t (op:Int) (p q:Bool):Bool:=if op=1 then p&&q else if op=2 then p||q else if op=3 then p&&!q else p != q
theorem zq4 (op:Int) (p q:Bool):z0y Tryz.prog 95 [I .i64 op,B p,B q] (B (z4t op p q)):=by
 refine z1p fun H=>?_
 refine z0k Tryz.func95 (by kernel_rfl) rfl (by simp) ?_
 dsimp only[Tryz.f95]
 rw[z4t]
 by_cases h1:op=1
 · rw[zAz h1]
   exact zD19
 rw[zAy h1]
 by_cases h2:op=2
 · rw[zAz h2]
   exact zD19
 rw[zAy h2]
 by_cases h3:op=3
 · rw[zAz h3]
   exact zD19
 rw[zAy h3]
 exact zD19
def zed (op:Int) (p q:Int):Bool:=if op=1 then decide (p<0)||decide (q<0) else if op=3 then decide (p<0) else decide (p<0)&&decide (q<0)
theorem zt2 (op p q:Int):z0y Tryz.prog 100 [I .i64 op,.d (.agg [z2t p,z2t q])] (B (zed op p q)):=by
 refine z1p fun H=>?_
 refine z0k Tryz.func100 (by kernel_rfl) rfl (by simp) ?_
 dsimp only[Tryz.f100]
 rw[zed]
 by_cases h1:op=1
 · rw[zAz h1]
   by_cases p0:p<0
   · rw[zAi p0,Bool.true_or]
     all_goals exact zD11
   · rw[zAo p0,Bool.false_or]
     all_goals exact zD11
 rw[zAy h1]
 by_cases h3:op=3
 · rw[zAz h3]
   all_goals exact zD11
 rw[zAy h3]
 by_cases p0:p<0
 · rw[zAi p0,Bool.true_and]
   all_goals exact zD11
 · rw[zAo p0,Bool.false_and]
   all_goals exact zD11
theorem ziy (a:Au) (q:Int) (hq:q<a.F.length):z0y Tryz.prog 96 [.d (auD a),I .i64 q] (B (a.fin q)):=by
 obtain⟨F,A⟩:=a
 refine z1p fun H=>?_
 refine z0k Tryz.func96 (by kernel_rfl) rfl (by simp) ?_
 dsimp only[Tryz.f96]
 rw[Au.fin]
 by_cases hn:q<0
 · rw[zAz hn]
   repeat' (first|(apply z08;(first|refine z0o ?_| (apply z0a;(refine z02 z1k rfl rfl ?_))|(apply z0e;(refine z02 z0t rfl rfl ?_))|(apply z1s;(refine z0b z3k ?_))))|(apply z07;(first|refine z0m ?_|apply z09|refine z1u ?_| refine z2p (fun _=>?_) (fun _=>?_)))|(apply z05;(first|apply z06|apply z00)))
   all_goals try (exfalso;omega)
   all_goals exact z0p Tryz.func96 _ z1c ⟨rfl,rfl⟩
 · rw[zAy hn]
   obtain⟨k,rfl⟩:∃ k:Nat,q=k:=⟨q.toNat,by omega⟩
   simp only at hq
   obtain⟨b,hb⟩:∃ b,F[k]? =some b:=⟨_,zA0 (by omega)⟩
   simp only[zA9,List.getD,hb,Option.getD_some]
   repeat' (first|(apply z08;(first|refine z0o ?_| (apply z0a;(first|refine z02 z1k rfl rfl ?_| refine z02 z2l rfl rfl ?_))|(apply z0e;(refine z02 z0t rfl rfl ?_))|(apply z0i;(refine z02 (z23 (ys:=F.map fun b=>[z9m b]) rfl (idx (g:=fun b=>[z9m b]) hb)) rfl rfl ?_))|(apply z1s;(refine z0b z3k ?_))))|(apply z07;(first|refine z0m ?_|apply z09))|(apply z05;(first|apply z06|apply z00)))
   all_goals try (exfalso;omega)
   all_goals exact z0p Tryz.func96 _ z1c ⟨rfl,rfl⟩
theorem zlt (a:Au) (q:Int) (hq:q<a.A.length):z0y Tryz.prog 98 [.d (auD a),I .i64 q] (.d (z9j (a.arcs q))):=by
 obtain⟨F,A⟩:=a
 refine z1p fun H=>?_
 refine z0k Tryz.func98 (by kernel_rfl) rfl (by simp) ?_
 dsimp only[Tryz.f98]
 rw[Au.arcs]
 by_cases hn:q<0
 · rw[zAz hn]
   repeat' (first|(apply z08;(first|refine z0o ?_| (apply z0a;(refine z02 z1k rfl rfl ?_))|(apply z0e;(refine z02 z0t rfl rfl ?_))|(apply z1s;(refine z0b z3k ?_))))|(apply z07;(first|refine z0m ?_|apply z09))|(apply z05;(first|apply z06|apply z00|apply z04|refine z0f (fun _=>?_) (fun _=>?_))))
   all_goals try (exfalso;omega)
   refine y3t 4 rfl ?_
   all_goals exact z0p Tryz.func98 _ z1c ⟨rfl,rfl⟩
 · rw[zAy hn]
   obtain⟨k,rfl⟩:∃ k:Nat,q=k:=⟨q.toNat,by omega⟩
   simp only at hq
   obtain⟨l,hb⟩:∃ l,A[k]? =some l:=⟨_,zA0 (by omega)⟩
   simp only[zA9,List.getD,hb,Option.getD_some]
   repeat' (first|(apply z08;(first|refine z0o ?_| (apply z0a;(first|refine z02 z1k rfl rfl ?_| refine z02 z2l rfl rfl ?_))|(apply z0e;(refine z02 z0t rfl rfl ?_))|(apply z0i;(refine z02 (z23 (ys:=A.map z4u) rfl (idx hb)) rfl rfl ?_))|(apply z1s;(refine z0b z3k ?_))))|(apply z07;(first|refine z0m ?_|apply z09))|(apply z05;(first|apply z06|apply z00|refine z0v ?_| apply z04)))
   all_goals try (exfalso;omega)
   all_goals exact z0p Tryz.func98 _ z1c ⟨rfl,rfl⟩
theorem y0n (l:List Arc) (hl:l.length≤2000000):z0y Tryz.prog 85 [.d (z9j l)] (.d (z9j l)):=by
 refine z1p fun H=>?_
 refine z0k Tryz.func85 (by kernel_rfl) rfl (by simp) ?_
 dsimp only[Tryz.f85]
 repeat' (first|(apply z08;(first|refine z0o ?_| (apply z13;(refine z02 (z1o rfl) rfl rfl ?_))))|(apply z07;(first|refine z0m ?_|apply z09))|(apply z05;(first|apply z06|apply z00|apply z01)))
 all_goals try (exfalso;omega)
 refine z2s 3 1000 169 3 rfl rfl rfl ?_
 refine z19 ?_
 refine z0c (z1v (fun q:Nat=>⟨24,[(3,.ref (0,1000)),(6,.d (z9j l)),(7,I .i64 l.length),(8,I .i64 (q:Nat))],[(1000,.row 169 3 ((l.take q).map z2x))],H⟩) (fun q=>q≤l.length) (fun q=>l.length-q) ?_ 0 (zAf _)) rfl rfl
 rintro i i1 ih
 by_cases hlt:i<l.length
 · obtain⟨x,hx⟩:∃ x,l[i]? =some x:=⟨_,zA0 hlt⟩
   have ih':=ih (i+1) (by omega) (by omega)
   rw[z5s hx] at ih'
   have htl:(l.take i).length≤2000000:=by rw[zAm];omega
   generalize l.take i=Q at *
   repeat' (first|(apply z08;(first|refine z0o ?_| (apply z0a;(first|refine z02 z1k rfl rfl ?_| refine z02 z2a rfl rfl ?_))|(apply z0e;(refine z02 z0t rfl rfl ?_))|(apply z0i;(refine z02 (z23 (ys:=l.map z2x) rfl (idx hx)) rfl rfl ?_))|(apply z0r;(refine z02 (z0s z0w) rfl rfl ?_))|(apply z13;(refine z3t (g:=z2x) x rfl ?_))|(apply z0d;(refine z29 ?_))|(apply z0g;(refine z0b z1f ?_))|(apply z1b;(refine z2k ?_))|(apply z2i;(refine z2n rfl ?_))))|(apply z07;(first|refine z0m ?_|apply z09))|(apply z05;(first|apply z06|apply z00|apply z04|apply z01|apply z03|refine z0f (fun _=>?_) (fun _=>?_)| refine z0j ?_)))
   all_goals try (exfalso;omega)
   all_goals refine z2o 21 1000 ?_
   all_goals exact z0c ih' rfl rfl
 · obtain rfl:i=l.length:=by omega
   rw[List.take_length] at *
   repeat' (first|(apply z08;(refine z0o ?_))|(apply z07;(first|refine z0m ?_|apply z09))|(apply z05;(first|apply z06|apply z00|apply z04|apply z01|refine z0f (fun _=>?_) (fun _=>?_)| refine z0j ?_)))
   all_goals try (exfalso;omega)
   all_goals refine z1y 1000 rfl ?_
   all_goals exact z0p Tryz.func85 _ z1c ⟨rfl,rfl⟩
def z5j (l:List Arc):List Rx.Rg:=l.map fun x=>(x.1,x.2.1)
theorem zf7 (l:List Arc) (hl:l.length≤2000000):z0y Tryz.prog 99 [.d (z9j l)] (.d (rgs (z5j l))):=by
 refine z1p fun H=>?_
 refine z0k Tryz.func99 (by kernel_rfl) rfl (by simp) ?_
 dsimp only[Tryz.f99]
 repeat' (first|(apply z08;(first|refine z0o ?_| (apply z13;(refine z02 (z1o rfl) rfl rfl ?_))))|(apply z07;(first|refine z0m ?_|apply z09))|(apply z05;(first|apply z06|apply z00|apply z01)))
 all_goals try (exfalso;omega)
 refine z2s 3 1000 155 2 rfl rfl rfl ?_
 refine z19 ?_
 refine z0c (z1v (fun q:Nat=>⟨22,[(3,.ref (0,1000)),(6,.d (z9j l)),(7,I .i64 l.length),(8,I .i64 (q:Nat))],[(1000,.row 155 2 (((z5j l).take q).map rgc))],H⟩) (fun q=>q≤l.length) (fun q=>l.length-q) ?_ 0 (zAf _)) rfl rfl
 rintro i i1 ih
 by_cases hlt:i<l.length
 · obtain⟨x,hx⟩:∃ x,l[i]? =some x:=⟨_,zA0 hlt⟩
   have hr:(z5j l)[i]? =some (x.1,x.2.1):=by rw[z5j,zAd,hx];rfl
   have ih':=ih (i+1) (by omega) (by omega)
   rw[z5s hr] at ih'
   have htl:((z5j l).take i).length≤2000000:=by rw[zAm];omega
   generalize (z5j l).take i=Q at *
   repeat' (first|(apply z08;(first|refine z0o ?_| (apply z0a;(first|refine z02 z1k rfl rfl ?_| refine z02 z2a rfl rfl ?_))|(apply z0e;(refine z02 z0t rfl rfl ?_))|(apply z0i;(refine z02 (z23 (ys:=l.map z2x) rfl (idx hx)) rfl rfl ?_))|(apply z0r;(refine z02 (z0s z0w) rfl rfl ?_))|(apply z13;(refine z3t (g:=rgc) (x.1,x.2.1) rfl ?_))|(apply z0d;(refine z29 ?_))|(apply z0g;(refine z0b z1f ?_))|(apply z1b;(refine z2k ?_))|(apply z2i;(refine z2n rfl ?_))))|(apply z07;(first|refine z0m ?_|apply z09))|(apply z05;(first|apply z06|apply z00|apply z04|apply z01|apply z03|refine z0f (fun _=>?_) (fun _=>?_)| refine z0j ?_)))
   all_goals try (exfalso;omega)
   all_goals refine z2o 19 1000 ?_
   all_goals exact z0c ih' rfl rfl
 · obtain rfl:i=l.length:=by omega
   rw[show l.length=(z5j l).length by rw[z5j,zA4],List.take_length] at *
   repeat' (first|(apply z08;(refine z0o ?_))|(apply z07;(first|refine z0m ?_|apply z09))|(apply z05;(first|apply z06|apply z00|apply z04|apply z01|refine z0f (fun _=>?_) (fun _=>?_)| refine z0j ?_)))
   all_goals try (exfalso;omega)
   all_goals refine z1y 1000 rfl ?_
   all_goals exact z0p Tryz.func99 _ z1c ⟨rfl,rfl⟩
abbrev ints (l:List Int):D:=.slice (l.map fun x=>[z2t x])
theorem zhj (l:List Arc) (cl:List Int) (hl:l.length≤2000000) (hr:∀ x∈l,0≤x.1∧x.1≤x.2.1∧x.2.1≤1114111∧0≤x.2.2∧x.2.2<cl.length):z0y Tryz.prog 81 [.d (z9j l),.d (ints cl)] (.d (z9j (byC cl l))):=by
 refine z1p fun H=>?_
 refine z0k Tryz.func81 (by kernel_rfl) rfl (by simp) ?_
 dsimp only[Tryz.f81]
 repeat' (first|(apply z08;(first|refine z0o ?_| (apply z13;(refine z02 (z1o rfl) rfl rfl ?_))))|(apply z07;(first|refine z0m ?_|apply z09))|(apply z05;(first|apply z06|apply z00|apply z01)))
 all_goals try (exfalso;omega)
 refine z2s 5 1000 169 3 rfl rfl rfl ?_
 refine z19 ?_
 refine z0c (z1v (fun q:Nat × List Arc=>⟨67,[(1,.d (ints cl)),(5,.ref (0,1000)),(10,.d (z9j l)),(11,I .i64 l.length),(12,I .i64 (q.1:Nat))],[(1000,.row 169 3 (q.2.map z2x))],H⟩) (fun q=>q.1≤l.length∧q.2.length≤q.1∧(∀ y∈q.2,0≤y.2.1∧y.2.1≤1114111)∧(l.drop q.1).foldl (zbd cl) q.2=byC cl l) (fun q=>l.length-q.1) ?_ (0,[]) ⟨zAf _,zAj _,by simp,rfl⟩) rfl rfl
 rintro⟨i,out⟩ ⟨i1,i2,i3,i4⟩ ih
 simp only at i1 i2 i3 i4 ih ⊢
 by_cases hlt:i<l.length
 · obtain⟨x,hx⟩:∃ x,l[i]? =some x:=⟨_,zA0 hlt⟩
   obtain⟨r1,r2,r3,r4,r5⟩:=hr x (zA2 hx)
   obtain⟨k,hk⟩:∃ k,cl[x.2.2.toNat]? =some k:=⟨_,zA0 (by omega)⟩
   have hck:clA cl x.2.2=k:=by rw[clA,zAy (by omega),List.getD,hk];rfl
   rw[drop_cons hx,List.foldl_cons,zbd,hck] at i4
   by_cases hneg:k<0
   · rw[zAz hneg] at i4
     have ih':=ih (i+1,out) ⟨by simp only;omega,by simp only;omega,i3,i4⟩ (by simp only;omega)
     repeat' (first|(apply z08;(first|refine z0o ?_| (apply z0a;(first|refine z02 z1k rfl rfl ?_| refine z02 z2l rfl rfl ?_| refine z02 z2a rfl rfl ?_))|(apply z0e;(refine z02 z0t rfl rfl ?_))|(apply z0i;(first|refine z02 (z23 (ys:=l.map z2x) rfl (idx hx)) rfl rfl ?_| refine z02 (z23 (ys:=cl.map fun x=>[z2t x]) rfl (zgm (g:=fun x=>[z2t x]) hk)) rfl rfl ?_))|(apply z0r;(refine z02 (z0s z0w) rfl rfl ?_))|(apply z13;(refine z02 (z1t rfl) rfl rfl ?_))|(apply z0d;(refine z29 ?_))|(apply z0g;(refine z0b z1f ?_))|(apply z1b;(refine z2k ?_))|(apply z2i;(refine z2n rfl ?_))))|(apply z07;(first|refine z0m ?_|apply z09))|(apply z05;(first|apply z06|apply z00|refine z0v ?_| apply z04|apply z01|apply z2c|refine z0f (fun _=>?_) (fun _=>?_)| refine z0j ?_))|(apply z2d;(first|(apply z0u;refine z1h mix ?_)|refine z1w ?_| refine z2e ?_| (apply z1m;(refine z0h (z1g z0w) rfl rfl ?_))|(refine z2f (fun hg=>?_) (fun hg=>?_)<;> simp only[hg] <;> (try simp only[zA3,zA5,zA6,zA8] at hg)))))
     all_goals exact zD14
   · rw[zAy hneg] at i4
     have hln:=zat out x.1 x.2.1 k
     have ih':=ih (i+1,ext out x.1 x.2.1 k) ⟨by simp only;omega,by simp only;omega,fun y hy=>by
      rcases ext_mem hy with h|h
      · omega
      · exact i3 y h,i4⟩ (by simp only;omega)
     clear ih hln
     rcases zjy out with rfl|⟨m,y,rfl⟩
     · rw[ext_nil] at ih'
       simp only at ih'
       repeat' (first|(apply z08;(first|refine z0o ?_| (apply z0a;(first|refine z02 z1k rfl rfl ?_| refine z02 z2l rfl rfl ?_| refine z02 z2a rfl rfl ?_))|(apply z0e;(refine z02 z0t rfl rfl ?_))|(apply z0i;(first|refine z02 (z23 (ys:=l.map z2x) rfl (idx hx)) rfl rfl ?_| refine z02 (z23 (ys:=cl.map fun x=>[z2t x]) rfl (zgm (g:=fun x=>[z2t x]) hk)) rfl rfl ?_))|(apply z0r;(refine z02 (z0s z0w) rfl rfl ?_))|(apply z13;(first|refine z02 (z7r rfl) rfl rfl ?_| refine z5n (g:=z2x) rfl rfl (x.1,x.2.1,k) rfl rfl rfl rfl rfl rfl rfl (by decide) (by simp) ?_))|(apply z0d;(refine z29 ?_))|(apply z0g;(refine z0b z1f ?_))|(apply z1b;(refine z2k ?_))|(apply z2i;(refine z2n rfl ?_))))|(apply z07;(first|refine z0m ?_|apply z09))|(apply z05;(first|apply z06|apply z00|refine z0v ?_| apply z04|apply z01|apply z2c|apply z03|refine z0f (fun _=>?_) (fun _=>?_)| refine z0j ?_))|(apply z2d;(first|(apply z0u;refine z1h mix ?_)|refine z1w ?_| refine z2e ?_)))
       all_goals try (exfalso;first|omega|(simp at *;done))
       all_goals refine z2o 64 1000 ?_
       all_goals exact z0c ih' rfl rfl
     · have hy:=i3 y (by simp)
       have hln:((m++[y]).map z2x).length=m.length+1:=by simp
       have hln2:(m++[y]).length=m.length+1:=by simp
       have hix:(m++[y])[((((((m++[y]).map z2x).length:Nat):Int)-1)).toNat]? =some y:=by
        rw[hln,show (((m.length+1:Nat):Int)-1).toNat=m.length by omega];simp
       have hse:(m++[y]).set ((((((m++[y]).map z2x).length:Nat):Int)-1)).toNat ((y.1,x.2.1,y.2.2):Arc)=m++[(y.1,x.2.1,y.2.2)]:=by
        rw[hln,show (((m.length+1:Nat):Int)-1).toNat=m.length by omega];simp
       rw[z4j] at ih'
       by_cases hj:y.2.1+1=x.1∧y.2.2=k
       · rw[zAz hj,← hj.2] at ih'
         simp only at ih'
         repeat' (first|(apply z08;(first|refine z0o ?_| (apply z0a;(first|refine z02 z1k rfl rfl ?_| refine z02 z2l rfl rfl ?_| refine z02 z2a rfl rfl ?_))|(apply z0e;(first|refine z02 z0t rfl rfl ?_| refine z02 z3s rfl rfl ?_))|(apply z0i;(first|refine z02 (z23 (ys:=l.map z2x) rfl (idx hx)) rfl rfl ?_| refine z02 (z23 (ys:=cl.map fun x=>[z2t x]) rfl (zgm (g:=fun x=>[z2t x]) hk)) rfl rfl ?_| refine z02 (z3h rfl) rfl rfl ?_))|(apply z0r;(first|refine z02 (z0s z0w) rfl rfl ?_| refine z02 (z1g z0w) rfl rfl ?_))|(apply z13;(first|refine z02 (z7r rfl) rfl rfl ?_| refine z3t (g:=z2x) (x.1,x.2.1,k) rfl ?_))|(apply z0d;(first|refine z3z ((y.1,x.2.1,y.2.2):Arc) hix hse ?_| refine z29 ?_))|(apply z0g;(refine z0b z1f ?_))|(apply z1b;(refine z2k ?_))|(apply z2i;(refine z2n rfl ?_))))|(apply z07;(first|refine z0m ?_|apply z09))|(apply z05;(first|apply z06|apply z00|refine z0v ?_| apply z04|apply z01|apply z2c|apply z03|refine z0f (fun _=>?_) (fun _=>?_)| refine z0j ?_))|(apply z2d;(first|(apply z0u;refine z1h mix ?_)|refine z1w ?_| refine z2e ?_| (apply z0l;(first|refine z0h (z0x (u:=z2b y.2.1) hix) rfl rfl ?_| refine z0h (z0x (u:=z2t y.2.2) hix) rfl rfl ?_| refine z0h z1k rfl rfl ?_))|(apply z11;(first|refine z0h z0t rfl rfl ?_| refine z0h z3s rfl rfl ?_))|(apply z0n;(refine z0h (z3h rfl) rfl rfl ?_))|(apply z1m;(first|refine z0h (z0s (zb9 (by omega) (by omega))) rfl rfl ?_| refine z0h (z1g z0w) rfl rfl ?_))|(refine z2f (fun hg=>?_) (fun hg=>?_)<;> simp only[hg] <;> (try simp only[zA3,zA5,zA6,zA8] at hg)))))
         all_goals exact zD14
       · rw[zAy hj] at ih'
         simp only at ih'
         repeat' (first|(apply z08;(first|refine z0o ?_| (apply z0a;(first|refine z02 z1k rfl rfl ?_| refine z02 z2l rfl rfl ?_| refine z02 z2a rfl rfl ?_))|(apply z0e;(first|refine z02 z0t rfl rfl ?_| refine z02 z3s rfl rfl ?_))|(apply z0i;(first|refine z02 (z23 (ys:=l.map z2x) rfl (idx hx)) rfl rfl ?_| refine z02 (z23 (ys:=cl.map fun x=>[z2t x]) rfl (zgm (g:=fun x=>[z2t x]) hk)) rfl rfl ?_| refine z02 (z3h rfl) rfl rfl ?_))|(apply z0r;(first|refine z02 (z0s z0w) rfl rfl ?_| refine z02 (z1g z0w) rfl rfl ?_))|(apply z13;(first|refine z02 (z7r rfl) rfl rfl ?_| refine z3t (g:=z2x) (x.1,x.2.1,k) rfl ?_))|(apply z0d;(first|refine z3z ((y.1,x.2.1,y.2.2):Arc) hix hse ?_| refine z29 ?_))|(apply z0g;(refine z0b z1f ?_))|(apply z1b;(refine z2k ?_))|(apply z2i;(refine z2n rfl ?_))))|(apply z07;(first|refine z0m ?_|apply z09))|(apply z05;(first|apply z06|apply z00|refine z0v ?_| apply z04|apply z01|apply z2c|apply z03|refine z0f (fun _=>?_) (fun _=>?_)| refine z0j ?_))|(apply z2d;(first|(apply z0u;refine z1h mix ?_)|refine z1w ?_| refine z2e ?_| (apply z0l;(first|refine z0h (z0x (u:=z2b y.2.1) hix) rfl rfl ?_| refine z0h (z0x (u:=z2t y.2.2) hix) rfl rfl ?_| refine z0h z1k rfl rfl ?_))|(apply z11;(first|refine z0h z0t rfl rfl ?_| refine z0h z3s rfl rfl ?_))|(apply z0n;(refine z0h (z3h rfl) rfl rfl ?_))|(apply z1m;(first|refine z0h (z0s (zb9 (by omega) (by omega))) rfl rfl ?_| refine z0h (z1g z0w) rfl rfl ?_))|(refine z2f (fun hg=>?_) (fun hg=>?_)<;> simp only[hg] <;> (try simp only[zA3,zA5,zA6,zA8] at hg)))))
         all_goals try (exfalso;omega)
         all_goals refine z2o 64 1000 ?_
         all_goals exact z0c ih' rfl rfl
 · obtain rfl:i=l.length:=by omega
   rw[zAs,List.foldl_nil] at i4
   rw[← i4]
   repeat' (first|(apply z08;(refine z0o ?_))|(apply z07;(first|refine z0m ?_|apply z09))|(apply z05;(first|apply z06|apply z00|apply z04|apply z01|refine z0f (fun _=>?_) (fun _=>?_)| refine z0j ?_)))
   all_goals try (exfalso;omega)
   all_goals refine z1y 1000 rfl ?_
   all_goals exact z0p Tryz.func81 _ z1c ⟨rfl,rfl⟩
open Go.Ab Go.Ax Go.Rx
theorem zki (l:List Rg) (hl:l.length≤9223372036854775807) (c:Int):z0y Tryz.prog 62 [.d (rgs l),I .i32 c] (B (inB l c)):=by
 refine z1p fun H=>?_
 refine z0k Tryz.func62 (by kernel_rfl) rfl (by simp) ?_
 dsimp only[Tryz.f62]
 repeat' (first|(apply z08;(first|refine z0o ?_| (apply z13;(refine z02 (z1o rfl) rfl rfl ?_))))|(apply z07;(first|refine z0m ?_|apply z09))|(apply z05;(first|apply z06|apply z00|apply z01)))
 all_goals try (exfalso;omega)
 refine z19 ?_
 refine z0c (z1v (fun q:Nat=>⟨24,[(1,I .i32 c),(7,.d (rgs l)),(8,I .i64 l.length),(9,I .i64 (q:Nat))],[],H⟩) (fun q=>q≤l.length∧inB (l.drop q) c=inB l c) (fun q=>l.length-q) ?_ 0 ⟨zAf _,rfl⟩) rfl rfl
 intro q ⟨i1,i2⟩ ih
 by_cases hlt:q<l.length
 · obtain⟨r,hr⟩:∃ r,l[q]? =some r:=⟨_,zA0 hlt⟩
   rw[drop_cons hr,inB,List.any_cons,← inB] at i2
   by_cases hc:r.1≤c∧c≤r.2
   · rw[zAi hc.1,zAi hc.2,Bool.true_and,Bool.true_or] at i2
     rw[← i2]
     repeat' (first|(apply z08;(first|refine z0o ?_| (apply z0a;(first|refine z02 z1k rfl rfl ?_| refine z02 z2a rfl rfl ?_))|(apply z0e;(refine z02 z0t rfl rfl ?_))|(apply z0i;(refine z02 (z23 (ys:=l.map rgc) rfl (idx hr)) rfl rfl ?_))|(apply z0r;(refine z02 (z0s z0w) rfl rfl ?_))|(apply z0d;(refine z29 ?_))|(apply z0g;(refine z0b z1f ?_))))|(apply z07;(first|refine z0m ?_|apply z09|refine z1u ?_| refine z2p (fun _=>?_) (fun _=>?_)))|(apply z05;(first|apply z06|apply z00|refine z0v ?_| apply z04|apply z01|apply z03|refine z0f (fun _=>?_) (fun _=>?_)| refine z0j ?_)))
     all_goals try (exfalso;omega)
     all_goals exact z0p Tryz.func62 _ z1c ⟨rfl,rfl⟩
   · have hf:(decide (r.1≤c)&&decide (c≤r.2))=false:=by
      rw[← Bool.decide_and];exact zAo hc
     rw[hf,Bool.false_or] at i2
     repeat' (first|(apply z08;(first|refine z0o ?_| (apply z0a;(first|refine z02 z1k rfl rfl ?_| refine z02 z2a rfl rfl ?_))|(apply z0e;(refine z02 z0t rfl rfl ?_))|(apply z0i;(refine z02 (z23 (ys:=l.map rgc) rfl (idx hr)) rfl rfl ?_))|(apply z0r;(refine z02 (z0s z0w) rfl rfl ?_))|(apply z0d;(refine z29 ?_))|(apply z0g;(refine z0b z1f ?_))))|(apply z07;(first|refine z0m ?_|apply z09|refine z1u ?_| refine z2p (fun _=>?_) (fun _=>?_)))|(apply z05;(first|apply z06|apply z00|refine z0v ?_| apply z04|apply z01|apply z03|refine z0f (fun _=>?_) (fun _=>?_)| refine z0j ?_)))
     all_goals try (exfalso;omega)
     all_goals exact z0c (ih (q+1) ⟨by omega,i2⟩ (by omega)) rfl rfl
 · obtain rfl:q=l.length:=by omega
   rw[zAs,inB,List.any_nil] at i2
   rw[← i2]
   repeat' (first|(apply z08;(refine z0o ?_))|(apply z07;(first|refine z0m ?_|apply z09))|(apply z05;(first|apply z06|apply z00|apply z04|apply z01|refine z0f (fun _=>?_) (fun _=>?_)| refine z0j ?_)))
   all_goals try (exfalso;omega)
   all_goals exact z0p Tryz.func62 _ z1c ⟨rfl,rfl⟩
abbrev cps (s:ByteArray) (i:Nat):List Int:=(rst s i).map (·.r)
def zh7 (a:Au) (s:ByteArray):Bool:=if vAu a=0∧zc5 s=true then a.acc 0 (cps s 0) else false
theorem zt3 {a:Au} (hv:y7p a) (k:Nat) (hk:k<a.F.length) (c:Int):∃ l,a.A[k]? =some l∧okA none l∧a.nx (k:Nat) c=nxt l c∧-1≤nxt l c∧nxt l c<a.F.length:=by
 obtain⟨l,hl⟩:∃ l,a.A[k]? =some l:=⟨_,zA0 (by rw[hv.len];exact hk)⟩
 have hla:=hv.arc l (zA2 hl)
 refine⟨l,hl,hla.1,by rw[Au.nx,Au.arcs,zAy (by omega),zA9,List.getD,hl];rfl,zn9 (p:=none) hla.1 c,?_⟩
 have key:∀ m:List Arc,(∀ x∈m,x.2.2<a.F.length)→nxt m c<a.F.length:=fun m=>by
  induction m with
  | nil=>intro _;simp only[nxt];have:=hv.pos;omega
  | cons x m ih =>
   intro h
   rw[nxt]
   split
   · exact h x (by simp)
   · exact ih fun y hy=>h y (by simp[hy])
 exact key l fun x hx=>(hla.2 x hx).2.2.2.2
theorem y4f (s:ByteArray) (hs:s.size≤1000000):z0y Tryz.prog 40 [S s] (B (zc5 s)):=by
 have h:=y0s s hs
 rw[zxk] at h
 exact h
theorem zap (a:Au) (hf:zam a) (hl:∀ l∈a.A,l.length≤4611686018427387904) (s:ByteArray) (hs:s.size≤1000000):z0y Tryz.prog 19 [.d (auD a),S s] (B (zh7 a s)):=by
 have hv:=z5b a hf
 have hd:=y4f s hs
 refine z1p fun H=>?_
 rw[zh7]
 by_cases h0:vAu a=0
 · rw[h0] at hv
   by_cases h1:zc5 s=true
   · have hva:=z8q h0
     rw[zAz ⟨h0,h1⟩]
     rw[h1] at hd
     obtain⟨F,A⟩:=a
     simp only at hl
     refine z0k Tryz.func19 (by kernel_rfl) rfl (by simp) ?_
     dsimp only[Tryz.f19]
     repeat' (first|(apply z08;(first|refine z0o ?_| (apply z0a;(refine z02 z2q rfl rfl ?_))|(apply z0q;(first|refine z0z hv ?_| refine z0z hd ?_))|(apply z1s;(refine z0b z3k ?_))|refine zdq rfl rfl rfl (by decide) ?_))|(apply z07;(first|refine z0m ?_|apply z09))|(apply z05;(first|apply z06|apply z00|refine z0v ?_| apply z04|apply z01)))
     all_goals try (exfalso;omega)
     refine z19 ?_
     refine z0c (z1v (fun q:Nat × Nat=>⟨35,[(2,.ptr (0,2) 0),(5,I .i64 (q.2:Nat)),(17,.ptr (0,17) 0)],[(17,.siter s q.1),(2,.box [.d (zea F),.d (.slice (A.map z4u))])],H⟩) (fun q=>q.1≤s.size∧q.2<F.length∧(⟨F,A⟩:Au).acc (q.2:Nat) (cps s q.1)=(⟨F,A⟩:Au).acc 0 (cps s 0)) (fun q=>s.size-q.1) ?_ (0,0) ⟨zAf _,hva.pos,rfl⟩) rfl rfl
     rintro⟨q,k⟩ ⟨i1,i2,i3⟩ ih
     simp only at i1 i2 i3 ih ⊢
     by_cases hlt:q<s.size
     · have hd2:=zaj hlt
       have hw:=zda s q hlt
       rw[cps,hd2,List.map_cons,Au.acc_cons] at i3
       simp only at i3
       obtain⟨l,hA,hlo,hnx,n0,n1⟩:=zt3 hva k i2 ((Utf8.decode s q).1:Nat)
       simp only at hA n1
       rw[hnx] at i3
       have hst:=zqo l (hl l (zA2 hA)) hlo ((Utf8.decode s q).1:Nat)
       generalize nxt l ((Utf8.decode s q).1:Nat)=r at *
       by_cases hr:r<0
       · rw[Au.acc_neg _ _ hr] at i3
         rw[← i3]
         repeat' (first|(apply z08;(first|refine z0o ?_| (apply z0a;(first|refine z02 z1k rfl rfl ?_| refine z02 z2l rfl rfl ?_))|(apply z0e;(refine z02 z0t rfl rfl ?_))|(apply z0i;(refine z02 (z23 (ys:=A.map z4u) rfl (idx hA)) rfl rfl ?_))|(apply z0q;(refine z0z hst ?_))|refine z3r hlt rfl rfl (by decide) ?_))|(apply z07;(first|refine z0m ?_|apply z09))|(apply z05;(first|apply z06|apply z00|refine z1a ?_| apply z04|apply z01|apply z03|refine z0f (fun _=>?_) (fun _=>?_))))
         all_goals exact zD84
       · obtain⟨r,rfl⟩:∃ r':Nat,r=r':=⟨r.toNat,by omega⟩
         have ih':=ih (q+(Utf8.decode s q).2,r) ⟨by simp only;omega,by simp only;omega,i3⟩ (by simp only;omega)
         repeat' (first|(apply z08;(first|refine z0o ?_| (apply z0a;(first|refine z02 z1k rfl rfl ?_| refine z02 z2l rfl rfl ?_))|(apply z0e;(refine z02 z0t rfl rfl ?_))|(apply z0i;(refine z02 (z23 (ys:=A.map z4u) rfl (idx hA)) rfl rfl ?_))|(apply z0q;(refine z0z hst ?_))|refine z3r hlt rfl rfl (by decide) ?_))|(apply z07;(first|refine z0m ?_|apply z09))|(apply z05;(first|apply z06|apply z00|refine z1a ?_| refine z0v ?_| apply z04|apply z01|apply z03)))
         all_goals exact zD14
     · rw[cps,z6f (by omega),List.map_nil,Au.acc_nil,Au.fin,zAy (by omega),zA9] at i3
       obtain⟨b,hb⟩:∃ b,F[k]? =some b:=⟨_,zA0 i2⟩
       simp only[List.getD,hb,Option.getD_some] at i3
       rw[← i3]
       repeat' (first|(apply z08;(first|refine z0o ?_| (apply z0a;(first|refine z02 z1k rfl rfl ?_| refine z02 z2l rfl rfl ?_))|(apply z0e;(refine z02 z0t rfl rfl ?_))|(apply z0i;(refine z02 (z23 (ys:=F.map fun b=>[z9m b]) rfl (idx (g:=fun b=>[z9m b]) hb)) rfl rfl ?_))|refine z4e hlt rfl rfl (by decide) ?_))|(apply z07;(first|refine z0m ?_|apply z09))|(apply z05;(first|apply z06|apply z00|refine z0v ?_| refine z0j ?_)))
       all_goals exact zD84
   · rw[zAy (fun h=>h1 h.2)]
     rw[Bool.not_eq_true] at h1
     rw[h1] at hd
     refine z0k Tryz.func19 (by kernel_rfl) rfl (by simp) ?_
     dsimp only[Tryz.f19]
     repeat' (first|(apply z08;(first|refine z0o ?_| (apply z0a;(refine z02 z2q rfl rfl ?_))|(apply z0q;(first|refine z0z hv ?_| refine z0z hd ?_))|(apply z1s;(refine z0b z3k ?_))))|(apply z07;(first|refine z0m ?_|apply z09))|(apply z05;(first|apply z06|apply z00|refine z1a ?_)))
     all_goals exact zD84
 · rw[zAy (fun h=>h0 h.1)]
   generalize vAu a=v at *
   refine z0k Tryz.func19 (by kernel_rfl) rfl (by simp) ?_
   dsimp only[Tryz.f19]
   repeat' (first|(apply z08;(first|refine z0o ?_| (apply z0a;(refine z02 z2q rfl rfl ?_))|(apply z0q;(first|refine z0z hv ?_| refine z0z hd ?_))|(apply z1s;(refine z0b z3k ?_))))|(apply z07;(first|refine z0m ?_|apply z09|refine z1u ?_| refine z4r rfl rfl (fun _=>?_) (fun _=>?_)))|(apply z05;(first|apply z06|apply z00|refine z1a ?_| apply z04|refine z9x rfl (fun _=>?_) (fun _=>?_))))
   all_goals exact zD84
theorem y49 (a:Au) (hf:zam a) (hl:∀ l∈a.A,l.length≤4611686018427387904) (s:ByteArray) (hs:s.size≤1000000):z0y Tryz.prog 20 [.d (auD a),S s] (B (zh7 a s)):=by
 have hv:=zw4 a hf
 have hd:=zwb s hs
 refine z1p fun H=>?_
 rw[zh7]
 by_cases h0:vAu a=0
 · rw[h0] at hv
   by_cases h1:zc5 s=true
   · have hva:=z8q h0
     rw[zAz ⟨h0,h1⟩]
     rw[h1] at hd
     have hlen:=hva.len
     have hnb:∀ c:Int,∀ r:Int,r<0→z0y Tryz.prog 43 [.d (auD a),I .i64 r,I .i32 c] (I .i64 (-1)):=fun c r hr=>zsr a r hr c
     have hnn:=fun (k:Nat) (hk:k<a.A.length) (c:Int)=>zz3 a k hk hl c
     refine z0k Tryz.func20 (by kernel_rfl) rfl (by simp) ?_
     dsimp only[Tryz.f20]
     repeat' (first|(apply z08;(first|refine z0o ?_| (apply z0a;(refine z02 z2q rfl rfl ?_))|(apply z0q;(first|refine z0z hv ?_| refine z0z hd ?_))|(apply z1s;(refine z0b z3k ?_))|refine zdq rfl rfl rfl (by decide) ?_))|(apply z07;(first|refine z0m ?_|apply z09))|(apply z05;(first|apply z06|apply z00|refine z0v ?_| apply z04|apply z01)))
     all_goals try (exfalso;omega)
     refine z19 ?_
     refine z0c (z1v (fun q:Nat × Int=>⟨34,[(2,.ptr (0,2) 0),(5,I .i64 q.2),(17,.ptr (0,17) 0)],[(17,.siter s q.1),(2,.box ((auc a).map .d))],H⟩) (fun q=>q.1≤s.size∧q.2<a.F.length∧a.acc q.2 (cps s q.1)=a.acc 0 (cps s 0)) (fun q=>s.size-q.1) ?_ (0,0) ⟨zAf _,by have:=hva.pos;simp only;omega,rfl⟩) rfl rfl
     rintro⟨q,k⟩ ⟨i1,i2,i3⟩ ih
     simp only at i1 i2 i3 ih ⊢
     by_cases hlt:q<s.size
     · have hd2:=zaj hlt
       have hw:=zda s q hlt
       rw[cps,hd2,List.map_cons,Au.acc_cons] at i3
       simp only at i3
       by_cases hk:k<0
       · have hst:=hnb ((Utf8.decode s q).1:Nat) k hk
         rw[a.nx_neg hk] at i3
         have ih':=ih (q+(Utf8.decode s q).2,-1) ⟨by simp only;omega,by simp only;have:=hva.pos;omega,i3⟩ (by simp only;omega)
         all_goals exact zD65
       · obtain⟨k,rfl⟩:∃ k':Nat,k=k':=⟨k.toNat,by omega⟩
         obtain⟨l,hA,hlo,hnx,n0,n1⟩:=zt3 hva k (by omega) ((Utf8.decode s q).1:Nat)
         have hst:=hnn k (by omega) ((Utf8.decode s q).1:Nat)
         have ih':=ih (q+(Utf8.decode s q).2,a.nx (k:Nat) ((Utf8.decode s q).1:Nat)) ⟨by simp only;omega,by simp only;omega,i3⟩ (by simp only;omega)
         simp only at ih'
         generalize a.nx (k:Nat) ((Utf8.decode s q).1:Nat)=r at *
         all_goals exact zD65
     · rw[cps,z6f (by omega),List.map_nil,Au.acc_nil] at i3
       rw[← i3]
       by_cases hk:k<0
       · rw[Au.fin,zAz hk]
         repeat' (first|(apply z08;(first|refine z0o ?_| (apply z0a;(refine z02 z1k rfl rfl ?_))|(apply z0e;(refine z02 z0t rfl rfl ?_))|refine z4e hlt rfl rfl (by decide) ?_))|(apply z07;(first|refine z0m ?_|apply z09|refine z1u ?_| refine z2p (fun _=>?_) (fun _=>?_)))|(apply z05;(first|apply z06|apply z00|refine z0v ?_| refine z0j ?_)))
         all_goals exact zD83
       · obtain⟨k,rfl⟩:∃ k':Nat,k=k':=⟨k.toNat,by omega⟩
         obtain⟨b,hb⟩:∃ b,a.F[k]? =some b:=⟨_,zA0 (by omega)⟩
         rw[Au.fin,zAy hk,zA9]
         simp only[List.getD,hb,Option.getD_some]
         repeat' (first|(apply z08;(first|refine z0o ?_| (apply z0a;(first|refine z02 z1k rfl rfl ?_| refine z02 z2l rfl rfl ?_))|(apply z0e;(refine z02 z0t rfl rfl ?_))|(apply z0i;(refine z02 (z23 (ys:=a.F.map fun b=>[z9m b]) rfl (idx (g:=fun b=>[z9m b]) hb)) rfl rfl ?_))|refine z4e hlt rfl rfl (by decide) ?_))|(apply z07;(first|refine z0m ?_|apply z09))|(apply z05;(first|apply z06|apply z00|refine z0v ?_| refine z0j ?_)))
         all_goals exact zD83
   · rw[zAy (fun h=>h1 h.2)]
     rw[Bool.not_eq_true] at h1
     rw[h1] at hd
     refine z0k Tryz.func20 (by kernel_rfl) rfl (by simp) ?_
     dsimp only[Tryz.f20]
     repeat' (first|(apply z08;(first|refine z0o ?_| (apply z0a;(refine z02 z2q rfl rfl ?_))|(apply z0q;(first|refine z0z hv ?_| refine z0z hd ?_))|(apply z1s;(refine z0b z3k ?_))))|(apply z07;(first|refine z0m ?_|apply z09))|(apply z05;(first|apply z06|apply z00|refine z1a ?_)))
     all_goals exact zD83
 · rw[zAy (fun h=>h0 h.1)]
   generalize vAu a=v at *
   refine z0k Tryz.func20 (by kernel_rfl) rfl (by simp) ?_
   dsimp only[Tryz.f20]
   repeat' (first|(apply z08;(first|refine z0o ?_| (apply z0a;(refine z02 z2q rfl rfl ?_))|(apply z0q;(first|refine z0z hv ?_| refine z0z hd ?_))|(apply z1s;(refine z0b z3k ?_))))|(apply z07;(first|refine z0m ?_|apply z09|refine z1u ?_| refine z4r rfl rfl (fun _=>?_) (fun _=>?_)))|(apply z05;(first|apply z06|apply z00|refine z1a ?_| apply z04|refine z9x rfl (fun _=>?_) (fun _=>?_))))
   all_goals exact zD83
end Go.Proofs.YthdfkabdoidjfaaGreatDoor
