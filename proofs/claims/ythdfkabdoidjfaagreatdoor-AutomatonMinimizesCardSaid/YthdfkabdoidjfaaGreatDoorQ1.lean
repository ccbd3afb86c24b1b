/- A part of the proof: A1, A2, A3, A6, A7, A8, A9, A4. -/
import Derived.Test.YthdfkabdoidjfaaGreatDoorQt
import Derived.Test.YthdfkabdoidjfaaGreatDoorQy
import Derived.Test.YthdfkabdoidjfaaGreatDoorQc
import Derived.Test.YthdfkabdoidjfaaGreatDoorQr
import Derived.Test.YthdfkabdoidjfaaGreatDoorQz
import Derived.Test.YthdfkabdoidjfaaGreatDoorQx
import Derived.Test.YthdfkabdoidjfaaGreatDoorQv
set_option linter.all false
set_option linter.unusedVariables false
set_option linter.unusedSimpArgs false
namespace Go.Proofs.YthdfkabdoidjfaaGreatDoor
open Go.Ab Go.Ax
set_option maxHeartbeats 20000000
set_option maxRecDepth 100000
attribute [local irreducible] Run Ops Op1 z2b Val Tr z0v z2c NF Rel z3w z3x
abbrev z2l (x:Arc):List D:=[z3e x.1,z3e x.2.1,z1m x.2.2]
abbrev z95 (l:List Arc):D:=.slice (l.map z2l)
abbrev z4a (l:List Arc):List D:=[z95 l]
abbrev z7a (F:List Bool):D:=.slice (F.map fun b=>[z7l b])
abbrev auc (a:Au):List D:=[z7a a.F,.slice (a.A.map z4a)]
abbrev auD (a:Au):D:=.agg (auc a)
def zei (a:Au):Prop:=a.F.length≤9223372036854775807∧a.A.length≤9223372036854775807∧∀ l∈a.A,l.length≤9223372036854775807
def zjz (l:List Arc) (i:Nat):Option Arc:=if i=0 then none else l[i-1]?
theorem zd9 (a:Au) (hf:zei a):z0v Tryz.prog 16 [.d (auD a)] (I .i64 (vAu a)):=by
 obtain⟨F,A⟩:=a
 obtain⟨f1,f2,f3⟩:=hf
 simp only at f1 f2 f3
 refine z1e fun H=>?_
 refine z0k Tryz.func16 (by kernel_rfl) rfl (by simp) ?_
 dsimp only[Tryz.f16]
 rw[vAu]
 simp only
 by_cases h1:256<F.length
 · rw[if_pos h1]
   repeat' (first|(apply z05;(first|refine z0o ?_| (apply z09;(refine z02 z1d rfl rfl ?_))|(apply z0d;(refine z02 z0i rfl rfl ?_))|(apply z0t;(refine z02 (z1b rfl) rfl rfl ?_))|(apply z1q;(refine z0b z25 ?_))))|(apply z08;(first|refine z0n ?_|apply z07|refine z1r ?_| refine z2h (fun _=>?_) (fun _=>?_)))|(apply z06;(first|apply z0a|apply z00|refine z1h ?_| apply z04|apply z01|apply z03|refine z0g (fun _=>?_) (fun _=>?_)| refine z3z rfl (fun _=>?_) (fun _=>?_))))
   all_goals try (exfalso;simp only[List.length_map] at *;omega)
   all_goals exact z0l Tryz.func16 _ z16 ⟨rfl,rfl⟩
 rw[if_neg h1]
 by_cases h2:F.length=0∨A.length≠F.length
 · rw[if_pos h2]
   repeat' (first|(apply z05;(first|refine z0o ?_| (apply z09;(refine z02 z1d rfl rfl ?_))|(apply z0d;(refine z02 z0i rfl rfl ?_))|(apply z0t;(refine z02 (z1b rfl) rfl rfl ?_))|(apply z1q;(refine z0b z25 ?_))))|(apply z08;(first|refine z0n ?_|apply z07|refine z1r ?_| refine z2h (fun _=>?_) (fun _=>?_)))|(apply z06;(first|apply z0a|apply z00|refine z1h ?_| apply z04|apply z01|apply z03|refine z0g (fun _=>?_) (fun _=>?_)| refine z3z rfl (fun _=>?_) (fun _=>?_))))
   all_goals try (exfalso;simp only[List.length_map] at *;omega)
   all_goals exact z0l Tryz.func16 _ z16 ⟨rfl,rfl⟩
 rw[if_neg h2]
 have e1:A.length=F.length:=by omega
 have e2:0<F.length:=by omega
 repeat' (first|(apply z05;(first|refine z0o ?_| (apply z09;(refine z02 z1d rfl rfl ?_))|(apply z0d;(refine z02 z0i rfl rfl ?_))|(apply z0t;(refine z02 (z1b rfl) rfl rfl ?_))|(apply z1q;(refine z0b z25 ?_))))|(apply z08;(first|refine z0n ?_|apply z07|refine z1r ?_| refine z2h (fun _=>?_) (fun _=>?_)))|(apply z06;(first|apply z0a|apply z00|refine z1h ?_| apply z04|apply z01|apply z03|refine z0g (fun _=>?_) (fun _=>?_)| refine z3z rfl (fun _=>?_) (fun _=>?_))))
 all_goals try (exfalso;simp only[List.length_map] at *;omega)
 refine z1a ?_
 refine z0e (z1y (fun q:Nat=>⟨99,[(1,.ptr (0,1) 0),(3,I .i64 F.length),(25,.d (.slice (A.map z4a))),(26,I .i64 A.length),(27,I .i64 (q:Nat))],[(1,.box [.d (z7a F),.d (.slice (A.map z4a))])],H⟩) (fun q=>q≤A.length∧z9p F.length (A.drop q)=z9p F.length A) (fun q=>A.length-q) ?_ 0 ⟨Nat.zero_le _,rfl⟩) rfl rfl
 rintro i ⟨i1,i2⟩ ih
 by_cases hlt:i<A.length
 · obtain⟨l,hl⟩:∃ l,A[i]? =some l:=⟨_,List.getElem?_eq_getElem hlt⟩
   have hlm:=f3 l (List.mem_of_getElem? hl)
   rw[drop_cons hl,z9p] at i2
   repeat' (first|(apply z05;(first|refine z0o ?_| (apply z09;(refine z02 z1p rfl rfl ?_))|(apply z0f;(refine z02 (z1i (ys:=A.map z4a) rfl (idx hl)) rfl rfl ?_))|(apply z0t;(refine z02 (z1b rfl) rfl rfl ?_))))|(apply z08;(first|refine z0n ?_|apply z07))|(apply z06;(first|apply z0a|apply z00|apply z04|apply z01|refine z0g (fun _=>?_) (fun _=>?_)| refine z0j ?_)))
   all_goals try (exfalso;omega)
   refine z1a ?_
   refine z0e (z1y (fun q:Nat=>⟨99,[(1,.ptr (0,1) 0),(3,I .i64 F.length),(25,.d (.slice (A.map z4a))),(26,I .i64 A.length),(27,I .i64 (i:Nat)),(5,.d (z95 l)),(31,.d (z95 l)),(32,I .i64 l.length),(33,I .i64 (q:Nat))],[(1,.box [.d (z7a F),.d (.slice (A.map z4a))])],H⟩) (fun q=>q≤l.length∧zfo F.length (zjz l q) (l.drop q)=zfo F.length none l∧∀ y,zjz l q=some y→0≤y.1∧y.1≤y.2.1∧y.2.1≤1114111) (fun q=>l.length-q) ?_ 0 ⟨Nat.zero_le _,rfl,by intro y hy;cases hy⟩) rfl rfl
   rintro k ⟨k1,k2,k3⟩ ihk
   by_cases hk:k<l.length
   · obtain⟨x,hx⟩:∃ x,l[k]? =some x:=⟨_,List.getElem?_eq_getElem hk⟩
     have hpk:zjz l (k+1)=some x:=by rw[zjz,if_neg (by omega)];exact hx
     rw[drop_cons hx,z9g] at k2
     by_cases hb:zqy F.length x=true
     · rw[if_pos hb] at k2
       rw[← k2,if_pos (by decide)] at i2
       rw[← i2]
       simp only[zqy,Bool.or_eq_true,decide_eq_true_eq] at hb
       repeat' (first|(apply z05;(first|refine z0o ?_| (apply z09;(first|refine z02 z1d rfl rfl ?_| refine z02 z27 rfl rfl ?_))|(apply z0d;(refine z02 z0i rfl rfl ?_))|(apply z0f;(refine z02 (z1i (ys:=l.map z2l) rfl (idx hx)) rfl rfl ?_))|(apply z0p;(refine z02 (z0q z1c) rfl rfl ?_))|(apply z0c;(refine z23 ?_))|(apply z0h;(refine z0b z2i ?_))))|(apply z08;(first|refine z0n ?_|apply z07))|(apply z06;(first|apply z0a|apply z00|refine z11 ?_| apply z04|apply z01|apply z2p|apply z03|refine z0g (fun _=>?_) (fun _=>?_)| refine z0j ?_))|(apply z2r;(first|(apply z15;refine z1o mix ?_)|refine z2y ?_| refine z2s ?_| (apply z0r;(refine z0m z1d rfl rfl ?_))|(apply z0s;(refine z0m z0i rfl rfl ?_))|(apply z2f;(refine z0m (z22 z1c) rfl rfl ?_))|(refine z1n rfl rfl (fun hg=>?_) (fun hg=>?_) <;> simp only[hg] <;> (try simp only[decide_eq_true_eq,decide_eq_false_iff_not,Bool.not_eq_true',Bool.not_eq_false'] at hg)))))
       all_goals try (exfalso;omega)
       all_goals exact z0l Tryz.func16 _ z16 ⟨rfl,rfl⟩
     · rw[if_neg hb] at k2
       simp only[zqy,Bool.or_eq_true,decide_eq_true_eq,not_or] at hb
       cases k with
       | zero =>
        rw[show zjz l 0=none from rfl] at k2
        simp only at k2
        have ihk':=ihk 1 ⟨by omega,by rw[hpk];exact k2,fun y hy=>by rw[hpk] at hy;cases hy;omega⟩ (by omega)
        repeat' (first|(apply z05;(first|refine z0o ?_| (apply z09;(first|refine z02 z1d rfl rfl ?_| refine z02 z27 rfl rfl ?_))|(apply z0d;(refine z02 z0i rfl rfl ?_))|(apply z0f;(refine z02 (z1i (ys:=l.map z2l) rfl (idx hx)) rfl rfl ?_))|(apply z0p;(refine z02 (z0q z1c) rfl rfl ?_))|(apply z0c;(refine z23 ?_))|(apply z0h;(refine z0b z2i ?_))))|(apply z08;(first|refine z0n ?_|apply z07))|(apply z06;(first|apply z0a|apply z00|refine z11 ?_| apply z04|apply z01|apply z2p|apply z03|refine z0g (fun _=>?_) (fun _=>?_)| refine z0j ?_))|(apply z2r;(first|(apply z15;refine z1o mix ?_)|refine z2y ?_| refine z2s ?_)))
        all_goals try (exfalso;omega)
        all_goals exact z0e ihk' rfl rfl
       | succ k =>
        obtain⟨y,hy⟩:∃ y,l[k]? =some y:=⟨_,List.getElem?_eq_getElem (by omega)⟩
        have hpy:zjz l (k+1)=some y:=by rw[zjz,if_neg (by omega)];exact hy
        have hyi:l[(((k+1:Nat):Int)-1).toNat]? =some y:=by rw[show (((k+1:Nat):Int)-1).toNat=k by omega];exact hy
        have hyr:=k3 y hpy
        rw[hpy] at k2
        simp only at k2
        by_cases ho:zpe y x=true
        · rw[if_pos ho] at k2
          rw[← k2,if_pos (by decide)] at i2
          rw[← i2]
          simp only[zpe,Bool.or_eq_true,Bool.and_eq_true,decide_eq_true_eq] at ho
          repeat' (first|(apply z05;(first|refine z0o ?_| (apply z09;(first|refine z02 z1d rfl rfl ?_| refine z02 z27 rfl rfl ?_))|(apply z0d;(refine z02 z0i rfl rfl ?_))|(apply z0f;(refine z02 (z1i (ys:=l.map z2l) rfl (idx hx)) rfl rfl ?_))|(apply z0p;(refine z02 (z0q z1c) rfl rfl ?_))|(apply z0c;(refine z23 ?_))|(apply z0h;(refine z0b z2i ?_))))|(apply z08;(first|refine z0n ?_|apply z07))|(apply z06;(first|apply z0a|apply z00|refine z11 ?_| apply z04|apply z01|apply z2p|apply z03|refine z0g (fun _=>?_) (fun _=>?_)| refine z0j ?_))|(apply z2r;(first|(apply z15;refine z1o mix ?_)|refine z2y ?_| refine z2s ?_| (apply z0r;(first|refine z0m z1d rfl rfl ?_| refine z0m z1p rfl rfl ?_))|(apply z0s;(first|refine z0m z0i rfl rfl ?_| refine z0m (z5s rfl rfl) rfl rfl ?_))|(apply z14;(refine z0m (z1i (ys:=l.map z2l) rfl (z52 hyi)) rfl rfl ?_))|(apply z2f;(first|refine z0m (z0q (z8x (by omega) (by omega))) rfl rfl ?_| refine z0m (z22 z1c) rfl rfl ?_))|(refine z1n rfl rfl (fun hg=>?_) (fun hg=>?_) <;> simp only[hg] <;> (try simp only[decide_eq_true_eq,decide_eq_false_iff_not,Bool.not_eq_true',Bool.not_eq_false'] at hg)))))
          all_goals try (exfalso;omega)
          all_goals exact z0l Tryz.func16 _ z16 ⟨rfl,rfl⟩
        · rw[if_neg ho] at k2
          simp only[zpe,Bool.or_eq_true,Bool.and_eq_true,decide_eq_true_eq,not_or,not_and] at ho
          have ihk':=ihk (k+2) ⟨by omega,by rw[hpk];exact k2,fun y hy=>by rw[hpk] at hy;cases hy;omega⟩ (by omega)
          repeat' (first|(apply z05;(first|refine z0o ?_| (apply z09;(first|refine z02 z1d rfl rfl ?_| refine z02 z27 rfl rfl ?_))|(apply z0d;(refine z02 z0i rfl rfl ?_))|(apply z0f;(refine z02 (z1i (ys:=l.map z2l) rfl (idx hx)) rfl rfl ?_))|(apply z0p;(refine z02 (z0q z1c) rfl rfl ?_))|(apply z0c;(refine z23 ?_))|(apply z0h;(refine z0b z2i ?_))))|(apply z08;(first|refine z0n ?_|apply z07))|(apply z06;(first|apply z0a|apply z00|refine z11 ?_| apply z04|apply z01|apply z2p|apply z03|refine z0g (fun _=>?_) (fun _=>?_)| refine z0j ?_))|(apply z2r;(first|(apply z15;refine z1o mix ?_)|refine z2y ?_| refine z2s ?_| (apply z0r;(first|refine z0m z1d rfl rfl ?_| refine z0m z1p rfl rfl ?_))|(apply z0s;(first|refine z0m z0i rfl rfl ?_| refine z0m (z5s rfl rfl) rfl rfl ?_))|(apply z14;(refine z0m (z1i (ys:=l.map z2l) rfl (z52 hyi)) rfl rfl ?_))|(apply z2f;(first|refine z0m (z0q (z8x (by omega) (by omega))) rfl rfl ?_| refine z0m (z22 z1c) rfl rfl ?_))|(refine z1n rfl rfl (fun hg=>?_) (fun hg=>?_) <;> simp only[hg] <;> (try simp only[decide_eq_true_eq,decide_eq_false_iff_not,Bool.not_eq_true',Bool.not_eq_false'] at hg)))))
          all_goals try (exfalso;omega)
          all_goals exact z0e ihk' rfl rfl
   · obtain rfl:k=l.length:=by omega
     rw[List.drop_length,zfo] at k2
     rw[← k2,if_neg (by decide)] at i2
     repeat' (first|(apply z05;(first|refine z0o ?_| (apply z0p;(refine z02 (z0q z1c) rfl rfl ?_))))|(apply z08;(first|refine z0n ?_|apply z07))|(apply z06;(first|apply z0a|apply z00|apply z04|apply z01|apply z03|refine z0g (fun _=>?_) (fun _=>?_)| refine z0j ?_)))
     all_goals try (exfalso;omega)
     all_goals exact z0e (ih (i+1) ⟨by omega,i2⟩ (by omega)) rfl rfl
 · obtain rfl:i=A.length:=by omega
   rw[List.drop_length,z9p] at i2
   rw[← i2]
   repeat' (first|(apply z05;(refine z0o ?_))|(apply z08;(first|refine z0n ?_|apply z07))|(apply z06;(first|apply z0a|apply z00|apply z04|apply z01|refine z0g (fun _=>?_) (fun _=>?_)| refine z0j ?_)))
   all_goals try (exfalso;omega)
   all_goals exact z0l Tryz.func16 _ z16 ⟨rfl,rfl⟩
theorem zlo (a:Au) (hf:zei a):z0v Tryz.prog 17 [.d (auD a)] (I .i64 (vAu a)):=by
 obtain⟨F,A⟩:=a
 obtain⟨f1,f2,f3⟩:=hf
 simp only at f1 f2 f3
 refine z1e fun H=>?_
 refine z0k Tryz.func17 (by kernel_rfl) rfl (by simp) ?_
 dsimp only[Tryz.f17]
 rw[vAu]
 simp only
 by_cases h1:256<F.length
 · rw[if_pos h1]
   repeat' (first|(apply z05;(first|refine z0o ?_| (apply z09;(refine z02 z1d rfl rfl ?_))|(apply z0d;(refine z02 z0i rfl rfl ?_))|(apply z0t;(refine z02 (z1b rfl) rfl rfl ?_))|(apply z1q;(refine z0b z25 ?_))))|(apply z08;(first|refine z0n ?_|apply z07|refine z1r ?_| refine z2h (fun _=>?_) (fun _=>?_)))|(apply z06;(first|apply z0a|apply z00|refine z1h ?_| apply z04|apply z01|refine z0g (fun _=>?_) (fun _=>?_)| refine z3z rfl (fun _=>?_) (fun _=>?_))))
   all_goals try (exfalso;simp only[List.length_map] at *;omega)
   all_goals exact z0l Tryz.func17 _ z16 ⟨rfl,rfl⟩
 rw[if_neg h1]
 by_cases h2:F.length=0∨A.length≠F.length
 · rw[if_pos h2]
   repeat' (first|(apply z05;(first|refine z0o ?_| (apply z09;(refine z02 z1d rfl rfl ?_))|(apply z0d;(refine z02 z0i rfl rfl ?_))|(apply z0t;(refine z02 (z1b rfl) rfl rfl ?_))|(apply z1q;(refine z0b z25 ?_))))|(apply z08;(first|refine z0n ?_|apply z07|refine z1r ?_| refine z2h (fun _=>?_) (fun _=>?_)))|(apply z06;(first|apply z0a|apply z00|refine z1h ?_| apply z04|apply z01|refine z0g (fun _=>?_) (fun _=>?_)| refine z3z rfl (fun _=>?_) (fun _=>?_))))
   all_goals try (exfalso;simp only[List.length_map] at *;omega)
   all_goals exact z0l Tryz.func17 _ z16 ⟨rfl,rfl⟩
 rw[if_neg h2]
 have e1:A.length=F.length:=by omega
 have e2:0<F.length:=by omega
 repeat' (first|(apply z05;(first|refine z0o ?_| (apply z09;(refine z02 z1d rfl rfl ?_))|(apply z0d;(refine z02 z0i rfl rfl ?_))|(apply z0t;(refine z02 (z1b rfl) rfl rfl ?_))|(apply z1q;(refine z0b z25 ?_))))|(apply z08;(first|refine z0n ?_|apply z07|refine z1r ?_| refine z2h (fun _=>?_) (fun _=>?_)))|(apply z06;(first|apply z0a|apply z00|refine z1h ?_| apply z04|apply z01|refine z0g (fun _=>?_) (fun _=>?_)| refine z3z rfl (fun _=>?_) (fun _=>?_))))
 all_goals try (exfalso;simp only[List.length_map] at *;omega)
 refine z1a ?_
 refine z0e (z1y (fun q:Nat=>⟨105,[(1,.ptr (0,1) 0),(3,I .i64 F.length),(23,.d (.slice (A.map z4a))),(24,I .i64 A.length),(25,I .i64 (q:Nat))],[(1,.box [.d (z7a F),.d (.slice (A.map z4a))])],H⟩) (fun q=>q≤A.length∧z9p F.length (A.drop q)=z9p F.length A) (fun q=>A.length-q) ?_ 0 ⟨Nat.zero_le _,rfl⟩) rfl rfl
 rintro i ⟨i1,i2⟩ ih
 by_cases hlt:i<A.length
 · obtain⟨l,hl⟩:∃ l,A[i]? =some l:=⟨_,List.getElem?_eq_getElem hlt⟩
   have hlm:=f3 l (List.mem_of_getElem? hl)
   rw[drop_cons hl,z9p] at i2
   repeat' (first|(apply z05;(first|refine z0o ?_| (apply z09;(refine z02 z1p rfl rfl ?_))|(apply z0f;(refine z02 (z1i (ys:=A.map z4a) rfl (idx hl)) rfl rfl ?_))|(apply z0t;(refine z02 (z1b rfl) rfl rfl ?_))))|(apply z08;(first|refine z0n ?_|apply z07))|(apply z06;(first|apply z0a|apply z00|apply z04|apply z01|refine z0g (fun _=>?_) (fun _=>?_)| refine z0j ?_)))
   all_goals try (exfalso;omega)
   refine z1a ?_
   refine z0e (z1y (fun q:Nat=>⟨105,[(1,.ptr (0,1) 0),(3,I .i64 F.length),(23,.d (.slice (A.map z4a))),(24,I .i64 A.length),(25,I .i64 (i:Nat)),(5,.d (z95 l)),(29,.d (z95 l)),(30,I .i64 l.length),(31,I .i64 (q:Nat))],[(1,.box [.d (z7a F),.d (.slice (A.map z4a))])],H⟩) (fun q=>q≤l.length∧zfo F.length (zjz l q) (l.drop q)=zfo F.length none l∧∀ y,zjz l q=some y→0≤y.1∧y.1≤y.2.1∧y.2.1≤1114111) (fun q=>l.length-q) ?_ 0 ⟨Nat.zero_le _,rfl,by intro y hy;cases hy⟩) rfl rfl
   rintro k ⟨k1,k2,k3⟩ ihk
   by_cases hk:k<l.length
   · obtain⟨x,hx⟩:∃ x,l[k]? =some x:=⟨_,List.getElem?_eq_getElem hk⟩
     have hpk:zjz l (k+1)=some x:=by rw[zjz,if_neg (by omega)];exact hx
     rw[drop_cons hx,z9g] at k2
     by_cases hb:zqy F.length x=true
     · rw[if_pos hb] at k2
       rw[← k2,if_pos (by decide)] at i2
       rw[← i2]
       simp only[zqy,Bool.or_eq_true,decide_eq_true_eq] at hb
       repeat' (first|(apply z05;(first|refine z0o ?_| (apply z09;(first|refine z02 z1d rfl rfl ?_| refine z02 z27 rfl rfl ?_))|(apply z0d;(refine z02 z0i rfl rfl ?_))|(apply z0f;(refine z02 (z1i (ys:=l.map z2l) rfl (idx hx)) rfl rfl ?_))|(apply z0p;(refine z02 (z0q z1c) rfl rfl ?_))|(apply z0c;(refine z23 ?_))|(apply z0h;(refine z0b z2i ?_))))|(apply z08;(first|refine z0n ?_|apply z07|refine z1r ?_| refine z2h (fun _=>?_) (fun _=>?_)))|(apply z06;(first|apply z0a|apply z00|refine z1h ?_| refine z11 ?_| apply z04|apply z01|apply z2p|apply z03|refine z0g (fun _=>?_) (fun _=>?_)| refine z0j ?_))|(apply z2r;(first|(apply z15;refine z1o mix ?_)|refine z2y ?_| refine z2s ?_| (apply z0r;(refine z0m z1d rfl rfl ?_))|(apply z0s;(refine z0m z0i rfl rfl ?_))|(apply z2f;(refine z0m (z22 z1c) rfl rfl ?_))|(refine z1n rfl rfl (fun hg=>?_) (fun hg=>?_) <;> simp only[hg] <;> (try simp only[decide_eq_true_eq,decide_eq_false_iff_not,Bool.not_eq_true',Bool.not_eq_false'] at hg)))))
       all_goals try (exfalso;omega)
       all_goals exact z0l Tryz.func17 _ z16 ⟨rfl,rfl⟩
     · rw[if_neg hb] at k2
       simp only[zqy,Bool.or_eq_true,decide_eq_true_eq,not_or] at hb
       cases k with
       | zero =>
        rw[show zjz l 0=none from rfl] at k2
        simp only at k2
        have ihk':=ihk 1 ⟨by omega,by rw[hpk];exact k2,fun y hy=>by rw[hpk] at hy;cases hy;omega⟩ (by omega)
        repeat' (first|(apply z05;(first|refine z0o ?_| (apply z09;(first|refine z02 z1d rfl rfl ?_| refine z02 z27 rfl rfl ?_))|(apply z0d;(refine z02 z0i rfl rfl ?_))|(apply z0f;(refine z02 (z1i (ys:=l.map z2l) rfl (idx hx)) rfl rfl ?_))|(apply z0p;(refine z02 (z0q z1c) rfl rfl ?_))|(apply z0c;(refine z23 ?_))|(apply z0h;(refine z0b z2i ?_))))|(apply z08;(first|refine z0n ?_|apply z07|refine z1r ?_| refine z2h (fun _=>?_) (fun _=>?_)))|(apply z06;(first|apply z0a|apply z00|refine z1h ?_| refine z11 ?_| apply z04|apply z01|apply z2p|apply z03|refine z0g (fun _=>?_) (fun _=>?_)| refine z0j ?_))|(apply z2r;(first|(apply z15;refine z1o mix ?_)|refine z2y ?_| refine z2s ?_)))
        all_goals try (exfalso;omega)
        all_goals exact z0e ihk' rfl rfl
       | succ k =>
        obtain⟨y,hy⟩:∃ y,l[k]? =some y:=⟨_,List.getElem?_eq_getElem (by omega)⟩
        have hpy:zjz l (k+1)=some y:=by rw[zjz,if_neg (by omega)];exact hy
        have hyi:l[(((k+1:Nat):Int)-1).toNat]? =some y:=by rw[show (((k+1:Nat):Int)-1).toNat=k by omega];exact hy
        have hyr:=k3 y hpy
        rw[hpy] at k2
        simp only at k2
        by_cases ho:zpe y x=true
        · rw[if_pos ho] at k2
          rw[← k2,if_pos (by decide)] at i2
          rw[← i2]
          simp only[zpe,Bool.or_eq_true,Bool.and_eq_true,decide_eq_true_eq] at ho
          repeat' (first|(apply z05;(first|refine z0o ?_| (apply z09;(first|refine z02 z1d rfl rfl ?_| refine z02 z27 rfl rfl ?_))|(apply z0d;(refine z02 z0i rfl rfl ?_))|(apply z0f;(refine z02 (z1i (ys:=l.map z2l) rfl (idx hx)) rfl rfl ?_))|(apply z0p;(refine z02 (z0q z1c) rfl rfl ?_))|(apply z0c;(refine z23 ?_))|(apply z0h;(refine z0b z2i ?_))))|(apply z08;(first|refine z0n ?_|apply z07|refine z1r ?_| refine z2h (fun _=>?_) (fun _=>?_)))|(apply z06;(first|apply z0a|apply z00|refine z1h ?_| refine z11 ?_| apply z04|apply z01|apply z2p|apply z03|refine z0g (fun _=>?_) (fun _=>?_)| refine z0j ?_))|(apply z2r;(first|(apply z15;refine z1o mix ?_)|refine z2y ?_| refine z2s ?_| (apply z0r;(first|refine z0m z1d rfl rfl ?_| refine z0m z1p rfl rfl ?_))|(apply z0s;(first|refine z0m z0i rfl rfl ?_| refine z0m (z5s rfl rfl) rfl rfl ?_))|(apply z14;(refine z0m (z1i (ys:=l.map z2l) rfl (z52 hyi)) rfl rfl ?_))|(apply z2f;(first|refine z0m (z0q (z8x (by omega) (by omega))) rfl rfl ?_| refine z0m (z22 z1c) rfl rfl ?_))|(refine z1n rfl rfl (fun hg=>?_) (fun hg=>?_) <;> simp only[hg] <;> (try simp only[decide_eq_true_eq,decide_eq_false_iff_not,Bool.not_eq_true',Bool.not_eq_false'] at hg)))))
          all_goals try (exfalso;omega)
          all_goals exact z0l Tryz.func17 _ z16 ⟨rfl,rfl⟩
        · rw[if_neg ho] at k2
          simp only[zpe,Bool.or_eq_true,Bool.and_eq_true,decide_eq_true_eq,not_or,not_and] at ho
          have ihk':=ihk (k+2) ⟨by omega,by rw[hpk];exact k2,fun y hy=>by rw[hpk] at hy;cases hy;omega⟩ (by omega)
          repeat' (first|(apply z05;(first|refine z0o ?_| (apply z09;(first|refine z02 z1d rfl rfl ?_| refine z02 z27 rfl rfl ?_))|(apply z0d;(refine z02 z0i rfl rfl ?_))|(apply z0f;(refine z02 (z1i (ys:=l.map z2l) rfl (idx hx)) rfl rfl ?_))|(apply z0p;(refine z02 (z0q z1c) rfl rfl ?_))|(apply z0c;(refine z23 ?_))|(apply z0h;(refine z0b z2i ?_))))|(apply z08;(first|refine z0n ?_|apply z07|refine z1r ?_| refine z2h (fun _=>?_) (fun _=>?_)))|(apply z06;(first|apply z0a|apply z00|refine z1h ?_| refine z11 ?_| apply z04|apply z01|apply z2p|apply z03|refine z0g (fun _=>?_) (fun _=>?_)| refine z0j ?_))|(apply z2r;(first|(apply z15;refine z1o mix ?_)|refine z2y ?_| refine z2s ?_| (apply z0r;(first|refine z0m z1d rfl rfl ?_| refine z0m z1p rfl rfl ?_))|(apply z0s;(first|refine z0m z0i rfl rfl ?_| refine z0m (z5s rfl rfl) rfl rfl ?_))|(apply z14;(refine z0m (z1i (ys:=l.map z2l) rfl (z52 hyi)) rfl rfl ?_))|(apply z2f;(first|refine z0m (z0q (z8x (by omega) (by omega))) rfl rfl ?_| refine z0m (z22 z1c) rfl rfl ?_))|(refine z1n rfl rfl (fun hg=>?_) (fun hg=>?_) <;> simp only[hg] <;> (try simp only[decide_eq_true_eq,decide_eq_false_iff_not,Bool.not_eq_true',Bool.not_eq_false'] at hg)))))
          all_goals try (exfalso;omega)
          all_goals exact z0e ihk' rfl rfl
   · obtain rfl:k=l.length:=by omega
     rw[List.drop_length,zfo] at k2
     rw[← k2,if_neg (by decide)] at i2
     repeat' (first|(apply z05;(first|refine z0o ?_| (apply z0p;(refine z02 (z0q z1c) rfl rfl ?_))))|(apply z08;(first|refine z0n ?_|apply z07))|(apply z06;(first|apply z0a|apply z00|apply z04|apply z01|apply z03|refine z0g (fun _=>?_) (fun _=>?_)| refine z0j ?_)))
     all_goals try (exfalso;omega)
     all_goals exact z0e (ih (i+1) ⟨by omega,i2⟩ (by omega)) rfl rfl
 · obtain rfl:i=A.length:=by omega
   rw[List.drop_length,z9p] at i2
   rw[← i2]
   repeat' (first|(apply z05;(refine z0o ?_))|(apply z08;(first|refine z0n ?_|apply z07))|(apply z06;(first|apply z0a|apply z00|apply z04|apply z01|refine z0g (fun _=>?_) (fun _=>?_)| refine z0j ?_)))
   all_goals try (exfalso;omega)
   all_goals exact z0l Tryz.func17 _ z16 ⟨rfl,rfl⟩
end Go.Proofs.YthdfkabdoidjfaaGreatDoor
namespace Go.Proofs.YthdfkabdoidjfaaGreatDoor
open Go.Ab Go.Ax
set_option maxHeartbeats 20000000
set_option maxRecDepth 100000
attribute [local irreducible] Run Ops Op1 z2b Val Tr z0v z2c NF Rel z3w z3x
def zzv (a b:Int):Int:=if a<b then -1 else if b<a then 1 else 0
theorem zeo (a:Int):z0v Tryz.prog 112 [I .i32 a] (B false):=by
 refine z1e fun H=>?_
 refine z0k Tryz.func112 (by kernel_rfl) rfl (by simp) ?_
 dsimp only[Tryz.f112]
 repeat' (first|(apply z05;(refine z0o ?_))|(apply z08;(first|refine z0n ?_|apply z07))|(apply z06;(first|apply z0a|apply z00)))
 all_goals try (exfalso;omega)
 all_goals exact z0l Tryz.func112 _ (znb rfl (by simp only[ne_eq,not_true_eq_false,decide_false];rfl)) ⟨rfl,rfl⟩
theorem zqr (a b:Int):z0v Tryz.prog 76 [I .i32 a,I .i32 b] (I .i64 (zzv a b)):=by
 refine z1e fun H=>?_
 have h1:=zeo a
 have h2:=zeo b
 refine z0k Tryz.func76 (by kernel_rfl) rfl (by simp) ?_
 dsimp only[Tryz.f76]
 rw[zzv]
 by_cases c1:a<b
 · rw[if_pos c1]
   repeat' (first|(apply z05;(first|refine z0o ?_| (apply z0u;(first|refine z1j h1 ?_| refine z1j h2 ?_))))|(apply z08;(first|refine z0n ?_|apply z07))|(apply z06;(first|apply z0a|apply z00|refine z11 ?_| apply z04|refine z0g (fun _=>?_) (fun _=>?_))))
   all_goals try (exfalso;omega)
   all_goals exact z0l Tryz.func76 _ z16 ⟨rfl,rfl⟩
 · rw[if_neg c1]
   by_cases c2:b<a
   · rw[if_pos c2]
     repeat' (first|(apply z05;(first|refine z0o ?_| (apply z0u;(first|refine z1j h1 ?_| refine z1j h2 ?_))))|(apply z08;(first|refine z0n ?_|apply z07))|(apply z06;(first|apply z0a|apply z00|refine z11 ?_| apply z04|refine z0g (fun _=>?_) (fun _=>?_))))
     all_goals try (exfalso;omega)
     all_goals exact z0l Tryz.func76 _ z16 ⟨rfl,rfl⟩
   · rw[if_neg c2]
     repeat' (first|(apply z05;(first|refine z0o ?_| (apply z0u;(first|refine z1j h1 ?_| refine z1j h2 ?_))))|(apply z08;(first|refine z0n ?_|apply z07))|(apply z06;(first|apply z0a|apply z00|refine z11 ?_| apply z04|refine z0g (fun _=>?_) (fun _=>?_))))
     all_goals try (exfalso;omega)
     all_goals exact z0l Tryz.func76 _ z16 ⟨rfl,rfl⟩
theorem zqp (x:Arc) (c:Int):z0v Tryz.prog 75 [.d (.agg (z2l x)),I .i32 c] (I .i64 (zzv x.2.1 c)):=by
 refine z1e fun H=>?_
 have h1:=zqr x.2.1 c
 refine z0k Tryz.func75 (by kernel_rfl) rfl (by simp) ?_
 dsimp only[Tryz.f75]
 repeat' (first|(apply z05;(first|refine z0o ?_| (apply z09;(refine z02 z1d rfl rfl ?_))|(apply z0d;(refine z02 z0i rfl rfl ?_))|(apply z0u;(refine z1j h1 ?_))|(apply z1q;(refine z0b z25 ?_))))|(apply z08;(first|refine z0n ?_|apply z07))|(apply z06;(first|apply z0a|apply z00)))
 all_goals try (exfalso;omega)
 all_goals exact z0l Tryz.func75 _ z16 ⟨rfl,rfl⟩
theorem znj (l:List Arc) (hl:l.length≤4611686018427387904) (ho:okA none l) (c:Int):z0v Tryz.prog 74 [.d (z95 l),I .i32 c,.fn (.func 75) [] []] (.tup [I .i64 (zfm c l:Nat),B (match l[zfm c l]? with|some x=>decide (x.2.1=c)|none=>false)]):=by
 refine z1e fun H=>?_
 have hmono:=zlv ho
 refine z0k Tryz.func74 (by kernel_rfl) rfl (by simp) ?_
 dsimp only[Tryz.f74]
 repeat' (first|(apply z05;(first|refine z0o ?_| (apply z0t;(refine z02 (z1b rfl) rfl rfl ?_))))|(apply z08;(first|refine z0n ?_|apply z07))|(apply z06;(first|apply z0a|apply z00|apply z01)))
 all_goals try (exfalso;omega)
 refine z1a ?_
 refine z0e (z1y (fun q:Nat × Nat=>⟨49,[(0,.d (z95 l)),(1,I .i32 c),(2,.fn (.func 75) [] []),(8,I .i64 l.length),(9,I .i64 (q.1:Nat)),(10,I .i64 (q.2:Nat))],[],H⟩) (fun q=>q.1≤q.2∧q.2≤l.length∧(∀ p x,p<q.1→l[p]? =some x→x.2.1<c)∧∀ p x,q.2≤p→l[p]? =some x→¬ x.2.1<c) (fun q=>q.2-q.1) ?_ (0,l.length) ⟨Nat.zero_le _,Nat.le_refl _,fun p x h=>absurd h (Nat.not_lt_zero _),fun p x h1 h2=>by have:=(List.getElem?_eq_some_iff.1 h2).1;omega⟩) rfl rfl
 rintro⟨i,j⟩ ⟨i1,i2,i3,i4⟩ ih
 simp only at i1 i2 i3 i4 ih ⊢
 by_cases hlt:i<j
 · have hh:((((i:Nat):Int)+((j:Nat):Int)) / 2)=(((i+j) / 2:Nat):Int):=by omega
   obtain⟨x,hx⟩:∃ x,l[(i+j) / 2]? =some x:=⟨_,List.getElem?_eq_getElem (by omega)⟩
   have hxi:l[((((i:Nat):Int)+((j:Nat):Int)) / 2).toNat]? =some x:=by rw[hh,Int.toNat_natCast];exact hx
   have hc:=zqp x c
   rw[zzv] at hc
   by_cases hlo:x.2.1<c
   · rw[if_pos hlo] at hc
     have ih':=ih ((i+j) / 2+1,j) ⟨by simp only;omega,i2,fun p y hp hy=>by have:=hmono p _ y x (by simp only at hp;omega) hy hx;omega,i4⟩ (by simp only;omega)
     rw[show (((i+j) / 2+1:Nat):Int)=(((i:Nat):Int)+((j:Nat):Int)) / 2+1 by omega] at ih'
     repeat' (first|(apply z05;(first|refine z0o ?_| (apply z09;(refine z02 z27 rfl rfl ?_))|(apply z0f;(refine z02 (z1i (ys:=l.map z2l) rfl (z52 hxi)) rfl rfl ?_))|(apply z0p;(first|refine z02 (zhg (by omega)) rfl rfl ?_| refine z02 (z0q z1c) rfl rfl ?_))|(apply z0u;(refine zb9 (first:=[]) (cap:=[]) (ps:=[.d (.agg (z2l x)),I .i32 c]) hc rfl rfl (by decide) ?_))|(apply z9f;(first|refine z02 (z69 rfl rfl (zt4 (by omega) (by omega))) rfl rfl ?_| refine z02 (z69 rfl rfl z1c) rfl rfl ?_))))|(apply z08;(first|refine z0n ?_|apply z07|refine z1r ?_| refine z2h (fun _=>?_) (fun _=>?_)))|(apply z06;(first|apply z0a|apply z00|refine z1h ?_| apply z04|apply z01|apply z03|refine z0g (fun _=>?_) (fun _=>?_)| refine z0j ?_)))
     all_goals try (exfalso;omega)
     all_goals exact z0e ih' rfl rfl
   · have ih':=ih (i,(i+j) / 2) ⟨by simp only;omega,by simp only;omega,i3,fun p y hp hy=>by have:=hmono _ p x y hp hx hy;omega⟩ (by simp only;omega)
     rw[hh.symm] at ih'
     rw[if_neg hlo] at hc
     have hc0:0≤(if c<x.2.1 then (1:Int) else 0):=by split <;> omega
     generalize (if c<x.2.1 then (1:Int) else 0)=cc at *
     repeat' (first|(apply z05;(first|refine z0o ?_| (apply z09;(refine z02 z27 rfl rfl ?_))|(apply z0f;(refine z02 (z1i (ys:=l.map z2l) rfl (z52 hxi)) rfl rfl ?_))|(apply z0p;(first|refine z02 (zhg (by omega)) rfl rfl ?_| refine z02 (z0q z1c) rfl rfl ?_))|(apply z0u;(refine zb9 (first:=[]) (cap:=[]) (ps:=[.d (.agg (z2l x)),I .i32 c]) hc rfl rfl (by decide) ?_))|(apply z9f;(first|refine z02 (z69 rfl rfl (zt4 (by omega) (by omega))) rfl rfl ?_| refine z02 (z69 rfl rfl z1c) rfl rfl ?_))))|(apply z08;(first|refine z0n ?_|apply z07|refine z1r ?_| refine z2h (fun _=>?_) (fun _=>?_)))|(apply z06;(first|apply z0a|apply z00|apply z04|apply z01|apply z03|refine z0g (fun _=>?_) (fun _=>?_)| refine z0j ?_)))
     all_goals try (exfalso;omega)
     all_goals exact z0e ih' rfl rfl
 · obtain rfl:i=j:=by omega
   have hcut:=zz0 (c:=c) i2 i3 (fun x hx=>i4 i x (Nat.le_refl _) hx)
   rw[← hcut]
   clear ih
   by_cases hin:i<l.length
   · obtain⟨x,hx⟩:∃ x,l[i]? =some x:=⟨_,List.getElem?_eq_getElem hin⟩
     have hnl:=i4 i x (Nat.le_refl _) hx
     have hc:=zqp x c
     rw[zzv,if_neg hnl] at hc
     rw[hx]
     simp only
     by_cases he:c<x.2.1
     · rw[if_pos he] at hc
       rw[show decide (x.2.1=c)=false by simp;omega]
       repeat' (first|(apply z05;(first|refine z0o ?_| (apply z09;(refine z02 z27 rfl rfl ?_))|(apply z0f;(refine z02 (z1i (ys:=l.map z2l) rfl (idx hx)) rfl rfl ?_))|(apply z0p;(first|refine z02 (z0q z1c) rfl rfl ?_| refine z02 (zhg (by omega)) rfl rfl ?_))|(apply z0u;(refine zb9 (first:=[]) (cap:=[]) (ps:=[.d (.agg (z2l x)),I .i32 c]) hc rfl rfl (by decide) ?_))|(apply z9f;(first|refine z02 (z69 rfl rfl (zt4 (by omega) (by omega))) rfl rfl ?_| refine z02 (z69 rfl rfl z1c) rfl rfl ?_))))|(apply z08;(first|refine z0n ?_|apply z07|refine z1r ?_| refine z2h (fun _=>?_) (fun _=>?_)))|(apply z06;(first|apply z0a|apply z00|apply z04|apply z01|refine z0g (fun _=>?_) (fun _=>?_)| refine z0j ?_)))
       all_goals try (exfalso;omega)
       all_goals exact z0l Tryz.func74 _ (z4n rfl rfl rfl) ⟨rfl,rfl⟩
     · rw[if_neg he] at hc
       rw[show decide (x.2.1=c)=true by simp;omega]
       repeat' (first|(apply z05;(first|refine z0o ?_| (apply z09;(refine z02 z27 rfl rfl ?_))|(apply z0f;(refine z02 (z1i (ys:=l.map z2l) rfl (idx hx)) rfl rfl ?_))|(apply z0p;(first|refine z02 (z0q z1c) rfl rfl ?_| refine z02 (zhg (by omega)) rfl rfl ?_))|(apply z0u;(refine zb9 (first:=[]) (cap:=[]) (ps:=[.d (.agg (z2l x)),I .i32 c]) hc rfl rfl (by decide) ?_))|(apply z9f;(first|refine z02 (z69 rfl rfl (zt4 (by omega) (by omega))) rfl rfl ?_| refine z02 (z69 rfl rfl z1c) rfl rfl ?_))))|(apply z08;(first|refine z0n ?_|apply z07|refine z1r ?_| refine z2h (fun _=>?_) (fun _=>?_)))|(apply z06;(first|apply z0a|apply z00|apply z04|apply z01|refine z0g (fun _=>?_) (fun _=>?_)| refine z0j ?_)))
       all_goals try (exfalso;omega)
       all_goals exact z0l Tryz.func74 _ (z4n rfl rfl rfl) ⟨rfl,rfl⟩
   · rw[List.getElem?_eq_none (by omega)]
     repeat' (first|(apply z05;(first|refine z0o ?_| (apply z0p;(first|refine z02 (z0q z1c) rfl rfl ?_| refine z02 (zhg (by omega)) rfl rfl ?_))|(apply z9f;(first|refine z02 (z69 rfl rfl (zt4 (by omega) (by omega))) rfl rfl ?_| refine z02 (z69 rfl rfl z1c) rfl rfl ?_))))|(apply z08;(first|refine z0n ?_|apply z07|refine z1r ?_| refine z2h (fun _=>?_) (fun _=>?_)))|(apply z06;(first|apply z0a|apply z00|apply z04|apply z01|refine z0g (fun _=>?_) (fun _=>?_)| refine z0j ?_)))
     all_goals try (exfalso;omega)
     all_goals exact z0l Tryz.func74 _ (z4n rfl rfl rfl) ⟨rfl,rfl⟩
theorem znv (l:List Arc) (hl:l.length≤4611686018427387904) (ho:okA none l) (c:Int):z0v Tryz.prog 41 [.d (z95 l),I .i32 c] (I .i64 (nxt l c)):=by
 refine z1e fun H=>?_
 have hb:=znj l hl ho c
 have hcl:=zqd c l
 rw[zo5 ho]
 refine z0k Tryz.func41 (by kernel_rfl) rfl (by simp) ?_
 dsimp only[Tryz.f41]
 by_cases hin:zfm c l<l.length
 · obtain⟨x,hx⟩:∃ x,l[zfm c l]? =some x:=⟨_,List.getElem?_eq_getElem hin⟩
   rw[hx] at hb ⊢
   simp only at hb ⊢
   generalize zfm c l=i at *
   by_cases hc:c<x.1
   · rw[if_pos hc]
     repeat' (first|(apply z05;(first|refine z0o ?_| (apply z09;(refine z02 z1p rfl rfl ?_))|(apply z0d;(refine z02 (z5s rfl rfl) rfl rfl ?_))|(apply z0f;(refine z02 (z1i (ys:=l.map z2l) rfl (idx hx)) rfl rfl ?_))|(apply z0t;(refine z02 (z1b rfl) rfl rfl ?_))|(apply z0u;(refine zb9 (first:=[]) (cap:=[]) (ps:=[.d (z95 l),I .i32 c,.fn (.func 75) [] []]) hb rfl rfl (by decide) ?_))))|(apply z08;(first|refine z0n ?_|apply z07|refine z1r ?_| refine z2h (fun _=>?_) (fun _=>?_)))|(apply z06;(first|apply z0a|apply z00|refine z1h ?_| apply z04|refine z0g (fun _=>?_) (fun _=>?_))))
     all_goals try (exfalso;omega)
     all_goals exact z0l Tryz.func41 _ z16 ⟨rfl,rfl⟩
   · rw[if_neg hc]
     repeat' (first|(apply z05;(first|refine z0o ?_| (apply z09;(refine z02 z1p rfl rfl ?_))|(apply z0d;(refine z02 (z5s rfl rfl) rfl rfl ?_))|(apply z0f;(refine z02 (z1i (ys:=l.map z2l) rfl (idx hx)) rfl rfl ?_))|(apply z0t;(refine z02 (z1b rfl) rfl rfl ?_))|(apply z0u;(refine zb9 (first:=[]) (cap:=[]) (ps:=[.d (z95 l),I .i32 c,.fn (.func 75) [] []]) hb rfl rfl (by decide) ?_))))|(apply z08;(first|refine z0n ?_|apply z07|refine z1r ?_| refine z2h (fun _=>?_) (fun _=>?_)))|(apply z06;(first|apply z0a|apply z00|refine z1h ?_| apply z04|refine z0g (fun _=>?_) (fun _=>?_))))
     all_goals try (exfalso;omega)
     all_goals exact z0l Tryz.func41 _ z16 ⟨rfl,rfl⟩
 · rw[List.getElem?_eq_none (by omega)] at hb ⊢
   simp only at hb ⊢
   have:zfm c l=l.length:=by omega
   rw[this] at hb
   repeat' (first|(apply z05;(first|refine z0o ?_| (apply z0t;(refine z02 (z1b rfl) rfl rfl ?_))|(apply z0u;(refine zb9 (first:=[]) (cap:=[]) (ps:=[.d (z95 l),I .i32 c,.fn (.func 75) [] []]) hb rfl rfl (by decide) ?_))))|(apply z08;(first|refine z0n ?_|apply z07|refine z1r ?_| refine z2h (fun _=>?_) (fun _=>?_)))|(apply z06;(first|apply z0a|apply z00|refine z1h ?_)))
   all_goals try (exfalso;omega)
   all_goals exact z0l Tryz.func41 _ z16 ⟨rfl,rfl⟩
end Go.Proofs.YthdfkabdoidjfaaGreatDoor
namespace Go.Proofs.YthdfkabdoidjfaaGreatDoor
open Go.Ab Go.Ax
set_option maxHeartbeats 20000000
set_option maxRecDepth 100000
attribute [local irreducible] Run Ops Op1 z2b Val Tr z0v z2c NF Rel z3w z3x
theorem zx1 (a:Au) (q:Nat) (hq:q<a.A.length) (hl:∀ l∈a.A,l.length≤4611686018427387904) (c:Int):z0v Tryz.prog 43 [.d (auD a),I .i64 (q:Nat),I .i32 c] (I .i64 (a.nx q c)):=by
 obtain⟨F,A⟩:=a
 simp only at hq hl
 obtain⟨l,hA⟩:∃ l,A[q]? =some l:=⟨_,List.getElem?_eq_getElem hq⟩
 have hll:=hl l (List.mem_of_getElem? hA)
 have hnx:(⟨F,A⟩:Au).nx (q:Nat) c=nxt l c:=by rw[Au.nx,Au.arcs,if_neg (by omega),Int.toNat_natCast,List.getD,hA];rfl
 rw[hnx]
 refine z1e fun H=>?_
 refine z0k Tryz.func43 (by kernel_rfl) rfl (by simp) ?_
 dsimp only[Tryz.f43]
 repeat' (first|(apply z05;(first|refine z0o ?_| (apply z09;(first|refine z02 z1d rfl rfl ?_| refine z02 z1p rfl rfl ?_))|(apply z0d;(refine z02 z0i rfl rfl ?_))|(apply z0f;(refine z02 (z1i (ys:=A.map z4a) rfl (idx hA)) rfl rfl ?_))|(apply z0t;(refine z02 (z1b rfl) rfl rfl ?_))|(apply z1q;(refine z0b z25 ?_))))|(apply z08;(first|refine z0n ?_|apply z07))|(apply z06;(first|apply z0a|apply z00|refine z11 ?_| apply z04|apply z01)))
 all_goals try (exfalso;omega)
 refine z1a ?_
 refine z0e (z1y (fun k:Nat=>⟨34,[(2,I .i32 c),(15,.d (z95 l)),(16,I .i64 l.length),(17,I .i64 (k:Nat))],[],H⟩) (fun k=>k≤l.length∧nxt (l.drop k) c=nxt l c) (fun k=>l.length-k) ?_ 0 ⟨Nat.zero_le _,rfl⟩) rfl rfl
 rintro k ⟨k1,k2⟩ ih
 by_cases hlt:k<l.length
 · obtain⟨x,hx⟩:∃ x,l[k]? =some x:=⟨_,List.getElem?_eq_getElem hlt⟩
   rw[drop_cons hx,nxt] at k2
   by_cases hc:x.1≤c∧c≤x.2.1
   · rw[if_pos hc] at k2
     rw[← k2]
     repeat' (first|(apply z05;(first|refine z0o ?_| (apply z09;(first|refine z02 z1d rfl rfl ?_| refine z02 z27 rfl rfl ?_))|(apply z0d;(refine z02 z0i rfl rfl ?_))|(apply z0f;(refine z02 (z1i (ys:=l.map z2l) rfl (idx hx)) rfl rfl ?_))|(apply z0p;(refine z02 (z0q z1c) rfl rfl ?_))|(apply z0c;(refine z23 ?_))|(apply z0h;(refine z0b z2i ?_))))|(apply z08;(first|refine z0n ?_|apply z07|refine z1r ?_| refine z2h (fun _=>?_) (fun _=>?_)))|(apply z06;(first|apply z0a|apply z00|refine z11 ?_| apply z04|apply z01|apply z03|refine z0g (fun _=>?_) (fun _=>?_)| refine z0j ?_)))
     all_goals try (exfalso;omega)
     all_goals exact z0l Tryz.func43 _ z16 ⟨rfl,rfl⟩
   · rw[if_neg hc] at k2
     have ih':=ih (k+1) ⟨by omega,k2⟩ (by omega)
     repeat' (first|(apply z05;(first|refine z0o ?_| (apply z09;(first|refine z02 z1d rfl rfl ?_| refine z02 z27 rfl rfl ?_))|(apply z0d;(refine z02 z0i rfl rfl ?_))|(apply z0f;(refine z02 (z1i (ys:=l.map z2l) rfl (idx hx)) rfl rfl ?_))|(apply z0p;(refine z02 (z0q z1c) rfl rfl ?_))|(apply z0c;(refine z23 ?_))|(apply z0h;(refine z0b z2i ?_))))|(apply z08;(first|refine z0n ?_|apply z07|refine z1r ?_| refine z2h (fun _=>?_) (fun _=>?_)))|(apply z06;(first|apply z0a|apply z00|refine z11 ?_| apply z04|apply z01|apply z03|refine z0g (fun _=>?_) (fun _=>?_)| refine z0j ?_)))
     all_goals try (exfalso;omega)
     all_goals exact z0e ih' rfl rfl
 · obtain rfl:k=l.length:=by omega
   rw[List.drop_length,nxt] at k2
   rw[← k2]
   repeat' (first|(apply z05;(refine z0o ?_))|(apply z08;(first|refine z0n ?_|apply z07))|(apply z06;(first|apply z0a|apply z00|apply z04|apply z01|refine z0g (fun _=>?_) (fun _=>?_)| refine z0j ?_)))
   all_goals try (exfalso;omega)
   all_goals exact z0l Tryz.func43 _ z16 ⟨rfl,rfl⟩
theorem zp8 (a:Au) (q:Int) (hq:q<0) (c:Int):z0v Tryz.prog 43 [.d (auD a),I .i64 q,I .i32 c] (I .i64 (-1)):=by
 obtain⟨F,A⟩:=a
 refine z1e fun H=>?_
 refine z0k Tryz.func43 (by kernel_rfl) rfl (by simp) ?_
 dsimp only[Tryz.f43]
 repeat' (first|(apply z05;(first|refine z0o ?_| (apply z09;(refine z02 z1d rfl rfl ?_))|(apply z0d;(refine z02 z0i rfl rfl ?_))|(apply z1q;(refine z0b z25 ?_))))|(apply z08;(first|refine z0n ?_|apply z07))|(apply z06;(first|apply z0a|apply z00|apply z04|refine z0g (fun _=>?_) (fun _=>?_))))
 all_goals try (exfalso;omega)
 all_goals exact z0l Tryz.func43 _ z16 ⟨rfl,rfl⟩
end Go.Proofs.YthdfkabdoidjfaaGreatDoor
namespace Go.Proofs.YthdfkabdoidjfaaGreatDoor
open Go.Ab Go.Ax
set_option maxHeartbeats 20000000
set_option maxRecDepth 100000
attribute [local irreducible] Run Ops Op1 z2b Val Tr z0v z2c NF Rel z3w z3x
def zr7 (op:Int) (p q:Bool):Bool:=if op=1 then p&&q else if op=2 then p||q else if op=3 then p&&!q else p != q
theorem zqo (op:Int) (p q:Bool):z0v Tryz.prog 95 [I .i64 op,B p,B q] (B (zr7 op p q)):=by
 refine z1e fun H=>?_
 refine z0k Tryz.func95 (by kernel_rfl) rfl (by simp) ?_
 dsimp only[Tryz.f95]
 rw[zr7]
 by_cases h1:op=1
 · rw[if_pos h1]
   cases p <;> cases q
   all_goals repeat' (first|(apply z05;(first|refine z0o ?_| (apply z0p;(refine z02 (z8p rfl) rfl rfl ?_))))|(apply z08;(first|refine z0n ?_|apply z07|refine z1r ?_))|(apply z06;(first|apply z0a|apply z00|apply z04|apply z01|apply z03|refine z0g (fun _=>?_) (fun _=>?_))))
   all_goals try (exfalso;omega)
   all_goals exact z0l Tryz.func95 _ z16 ⟨rfl,rfl⟩
 rw[if_neg h1]
 by_cases h2:op=2
 · rw[if_pos h2]
   cases p <;> cases q
   all_goals repeat' (first|(apply z05;(first|refine z0o ?_| (apply z0p;(refine z02 (z8p rfl) rfl rfl ?_))))|(apply z08;(first|refine z0n ?_|apply z07|refine z1r ?_))|(apply z06;(first|apply z0a|apply z00|apply z04|apply z01|apply z03|refine z0g (fun _=>?_) (fun _=>?_))))
   all_goals try (exfalso;omega)
   all_goals exact z0l Tryz.func95 _ z16 ⟨rfl,rfl⟩
 rw[if_neg h2]
 by_cases h3:op=3
 · rw[if_pos h3]
   cases p <;> cases q
   all_goals repeat' (first|(apply z05;(first|refine z0o ?_| (apply z0p;(refine z02 (z8p rfl) rfl rfl ?_))))|(apply z08;(first|refine z0n ?_|apply z07|refine z1r ?_))|(apply z06;(first|apply z0a|apply z00|apply z04|apply z01|apply z03|refine z0g (fun _=>?_) (fun _=>?_))))
   all_goals try (exfalso;omega)
   all_goals exact z0l Tryz.func95 _ z16 ⟨rfl,rfl⟩
 rw[if_neg h3]
 cases p <;> cases q
 all_goals repeat' (first|(apply z05;(first|refine z0o ?_| (apply z0p;(refine z02 (z8p rfl) rfl rfl ?_))))|(apply z08;(first|refine z0n ?_|apply z07|refine z1r ?_))|(apply z06;(first|apply z0a|apply z00|apply z04|apply z01|apply z03|refine z0g (fun _=>?_) (fun _=>?_))))
 all_goals try (exfalso;omega)
 all_goals exact z0l Tryz.func95 _ z16 ⟨rfl,rfl⟩
def zpj (op:Int) (p q:Int):Bool:=if op=1 then decide (p<0)||decide (q<0) else if op=3 then decide (p<0) else decide (p<0)&&decide (q<0)
theorem zr4 (op p q:Int):z0v Tryz.prog 100 [I .i64 op,.d (.agg [z1m p,z1m q])] (B (zpj op p q)):=by
 refine z1e fun H=>?_
 refine z0k Tryz.func100 (by kernel_rfl) rfl (by simp) ?_
 dsimp only[Tryz.f100]
 rw[zpj]
 by_cases h1:op=1
 · rw[if_pos h1]
   by_cases p0:p<0
   · rw[decide_eq_true p0,Bool.true_or]
     repeat' (first|(apply z05;(first|refine z0o ?_| (apply z09;(refine z02 z1d rfl rfl ?_))|(apply z0d;(refine z02 z0i rfl rfl ?_))|(apply z1q;(refine z0b z25 ?_))))|(apply z08;(first|refine z0n ?_|apply z07|refine z1r ?_| refine z2h (fun _=>?_) (fun _=>?_)))|(apply z06;(first|apply z0a|apply z00|apply z04|apply z01|apply z03|refine z0g (fun _=>?_) (fun _=>?_))))
     all_goals try (exfalso;omega)
     all_goals exact z0l Tryz.func100 _ z16 ⟨rfl,rfl⟩
   · rw[decide_eq_false p0,Bool.false_or]
     repeat' (first|(apply z05;(first|refine z0o ?_| (apply z09;(refine z02 z1d rfl rfl ?_))|(apply z0d;(refine z02 z0i rfl rfl ?_))|(apply z1q;(refine z0b z25 ?_))))|(apply z08;(first|refine z0n ?_|apply z07|refine z1r ?_| refine z2h (fun _=>?_) (fun _=>?_)))|(apply z06;(first|apply z0a|apply z00|apply z04|apply z01|apply z03|refine z0g (fun _=>?_) (fun _=>?_))))
     all_goals try (exfalso;omega)
     all_goals exact z0l Tryz.func100 _ z16 ⟨rfl,rfl⟩
 rw[if_neg h1]
 by_cases h3:op=3
 · rw[if_pos h3]
   repeat' (first|(apply z05;(first|refine z0o ?_| (apply z09;(refine z02 z1d rfl rfl ?_))|(apply z0d;(refine z02 z0i rfl rfl ?_))|(apply z1q;(refine z0b z25 ?_))))|(apply z08;(first|refine z0n ?_|apply z07|refine z1r ?_| refine z2h (fun _=>?_) (fun _=>?_)))|(apply z06;(first|apply z0a|apply z00|apply z04|apply z01|apply z03|refine z0g (fun _=>?_) (fun _=>?_))))
   all_goals try (exfalso;omega)
   all_goals exact z0l Tryz.func100 _ z16 ⟨rfl,rfl⟩
 rw[if_neg h3]
 by_cases p0:p<0
 · rw[decide_eq_true p0,Bool.true_and]
   repeat' (first|(apply z05;(first|refine z0o ?_| (apply z09;(refine z02 z1d rfl rfl ?_))|(apply z0d;(refine z02 z0i rfl rfl ?_))|(apply z1q;(refine z0b z25 ?_))))|(apply z08;(first|refine z0n ?_|apply z07|refine z1r ?_| refine z2h (fun _=>?_) (fun _=>?_)))|(apply z06;(first|apply z0a|apply z00|apply z04|apply z01|apply z03|refine z0g (fun _=>?_) (fun _=>?_))))
   all_goals try (exfalso;omega)
   all_goals exact z0l Tryz.func100 _ z16 ⟨rfl,rfl⟩
 · rw[decide_eq_false p0,Bool.false_and]
   repeat' (first|(apply z05;(first|refine z0o ?_| (apply z09;(refine z02 z1d rfl rfl ?_))|(apply z0d;(refine z02 z0i rfl rfl ?_))|(apply z1q;(refine z0b z25 ?_))))|(apply z08;(first|refine z0n ?_|apply z07|refine z1r ?_| refine z2h (fun _=>?_) (fun _=>?_)))|(apply z06;(first|apply z0a|apply z00|apply z04|apply z01|apply z03|refine z0g (fun _=>?_) (fun _=>?_))))
   all_goals try (exfalso;omega)
   all_goals exact z0l Tryz.func100 _ z16 ⟨rfl,rfl⟩
theorem zhl (a:Au) (q:Int) (hq:q<a.F.length):z0v Tryz.prog 96 [.d (auD a),I .i64 q] (B (a.fin q)):=by
 obtain⟨F,A⟩:=a
 refine z1e fun H=>?_
 refine z0k Tryz.func96 (by kernel_rfl) rfl (by simp) ?_
 dsimp only[Tryz.f96]
 rw[Au.fin]
 by_cases hn:q<0
 · rw[if_pos hn]
   repeat' (first|(apply z05;(first|refine z0o ?_| (apply z09;(refine z02 z1d rfl rfl ?_))|(apply z0d;(refine z02 z0i rfl rfl ?_))|(apply z1q;(refine z0b z25 ?_))))|(apply z08;(first|refine z0n ?_|apply z07|refine z1r ?_| refine z2h (fun _=>?_) (fun _=>?_)))|(apply z06;(first|apply z0a|apply z00)))
   all_goals try (exfalso;omega)
   all_goals exact z0l Tryz.func96 _ z16 ⟨rfl,rfl⟩
 · rw[if_neg hn]
   obtain⟨k,rfl⟩:∃ k:Nat,q=k:=⟨q.toNat,by omega⟩
   simp only at hq
   obtain⟨b,hb⟩:∃ b,F[k]? =some b:=⟨_,List.getElem?_eq_getElem (by omega)⟩
   simp only[Int.toNat_natCast,List.getD,hb,Option.getD_some]
   repeat' (first|(apply z05;(first|refine z0o ?_| (apply z09;(first|refine z02 z1d rfl rfl ?_| refine z02 z1p rfl rfl ?_))|(apply z0d;(refine z02 z0i rfl rfl ?_))|(apply z0f;(refine z02 (z1i (ys:=F.map fun b=>[z7l b]) rfl (idx (g:=fun b=>[z7l b]) hb)) rfl rfl ?_))|(apply z1q;(refine z0b z25 ?_))))|(apply z08;(first|refine z0n ?_|apply z07))|(apply z06;(first|apply z0a|apply z00)))
   all_goals try (exfalso;omega)
   all_goals exact z0l Tryz.func96 _ z16 ⟨rfl,rfl⟩
theorem zgd (a:Au) (q:Int) (hq:q<a.F.length):z0v Tryz.prog 89 [.d (auD a),I .i64 q] (B (a.fin q)):=by
 obtain⟨F,A⟩:=a
 refine z1e fun H=>?_
 refine z0k Tryz.func89 (by kernel_rfl) rfl (by simp) ?_
 dsimp only[Tryz.f89]
 rw[Au.fin]
 by_cases hn:q<0
 · rw[if_pos hn]
   repeat' (first|(apply z05;(first|refine z0o ?_| (apply z09;(refine z02 z1d rfl rfl ?_))|(apply z0d;(refine z02 z0i rfl rfl ?_))|(apply z1q;(refine z0b z25 ?_))))|(apply z08;(first|refine z0n ?_|apply z07|refine z1r ?_| refine z2h (fun _=>?_) (fun _=>?_)))|(apply z06;(first|apply z0a|apply z00)))
   all_goals try (exfalso;omega)
   all_goals exact z0l Tryz.func89 _ z16 ⟨rfl,rfl⟩
 · rw[if_neg hn]
   obtain⟨k,rfl⟩:∃ k:Nat,q=k:=⟨q.toNat,by omega⟩
   simp only at hq
   obtain⟨b,hb⟩:∃ b,F[k]? =some b:=⟨_,List.getElem?_eq_getElem (by omega)⟩
   simp only[Int.toNat_natCast,List.getD,hb,Option.getD_some]
   repeat' (first|(apply z05;(first|refine z0o ?_| (apply z09;(first|refine z02 z1d rfl rfl ?_| refine z02 z1p rfl rfl ?_))|(apply z0d;(refine z02 z0i rfl rfl ?_))|(apply z0f;(refine z02 (z1i (ys:=F.map fun b=>[z7l b]) rfl (idx (g:=fun b=>[z7l b]) hb)) rfl rfl ?_))|(apply z1q;(refine z0b z25 ?_))))|(apply z08;(first|refine z0n ?_|apply z07))|(apply z06;(first|apply z0a|apply z00)))
   all_goals try (exfalso;omega)
   all_goals exact z0l Tryz.func89 _ z16 ⟨rfl,rfl⟩
theorem zli (a:Au) (q:Int) (hq:q<a.A.length):z0v Tryz.prog 98 [.d (auD a),I .i64 q] (.d (z95 (a.arcs q))):=by
 obtain⟨F,A⟩:=a
 refine z1e fun H=>?_
 refine z0k Tryz.func98 (by kernel_rfl) rfl (by simp) ?_
 dsimp only[Tryz.f98]
 rw[Au.arcs]
 by_cases hn:q<0
 · rw[if_pos hn]
   repeat' (first|(apply z05;(first|refine z0o ?_| (apply z09;(refine z02 z1d rfl rfl ?_))|(apply z0d;(refine z02 z0i rfl rfl ?_))|(apply z1q;(refine z0b z25 ?_))))|(apply z08;(first|refine z0n ?_|apply z07))|(apply z06;(first|apply z0a|apply z00|apply z04|refine z0g (fun _=>?_) (fun _=>?_))))
   all_goals try (exfalso;omega)
   refine zzr 4 rfl ?_
   all_goals exact z0l Tryz.func98 _ z16 ⟨rfl,rfl⟩
 · rw[if_neg hn]
   obtain⟨k,rfl⟩:∃ k:Nat,q=k:=⟨q.toNat,by omega⟩
   simp only at hq
   obtain⟨l,hb⟩:∃ l,A[k]? =some l:=⟨_,List.getElem?_eq_getElem (by omega)⟩
   simp only[Int.toNat_natCast,List.getD,hb,Option.getD_some]
   repeat' (first|(apply z05;(first|refine z0o ?_| (apply z09;(first|refine z02 z1d rfl rfl ?_| refine z02 z1p rfl rfl ?_))|(apply z0d;(refine z02 z0i rfl rfl ?_))|(apply z0f;(refine z02 (z1i (ys:=A.map z4a) rfl (idx hb)) rfl rfl ?_))|(apply z1q;(refine z0b z25 ?_))))|(apply z08;(first|refine z0n ?_|apply z07))|(apply z06;(first|apply z0a|apply z00|refine z11 ?_| apply z04)))
   all_goals try (exfalso;omega)
   all_goals exact z0l Tryz.func98 _ z16 ⟨rfl,rfl⟩
end Go.Proofs.YthdfkabdoidjfaaGreatDoor
namespace Go.Proofs.YthdfkabdoidjfaaGreatDoor
open Go.Ab Go.Ax
set_option maxHeartbeats 20000000
set_option maxRecDepth 100000
attribute [local irreducible] Run Ops Op1 z2b Val Tr z0v z2c NF Rel z3w z3x
theorem zxh (l:List Arc) (hl:l.length≤2000000):z0v Tryz.prog 85 [.d (z95 l)] (.d (z95 l)):=by
 refine z1e fun H=>?_
 refine z0k Tryz.func85 (by kernel_rfl) rfl (by simp) ?_
 dsimp only[Tryz.f85]
 repeat' (first|(apply z05;(first|refine z0o ?_| (apply z0t;(refine z02 (z1b rfl) rfl rfl ?_))))|(apply z08;(first|refine z0n ?_|apply z07))|(apply z06;(first|apply z0a|apply z00|apply z01)))
 all_goals try (exfalso;omega)
 refine z2e 3 1000 169 3 rfl rfl rfl ?_
 refine z1a ?_
 refine z0e (z1y (fun q:Nat=>⟨24,[(3,.ref (0,1000)),(6,.d (z95 l)),(7,I .i64 l.length),(8,I .i64 (q:Nat))],[(1000,.row 169 3 ((l.take q).map z2l))],H⟩) (fun q=>q≤l.length) (fun q=>l.length-q) ?_ 0 (Nat.zero_le _)) rfl rfl
 rintro i i1 ih
 by_cases hlt:i<l.length
 · obtain⟨x,hx⟩:∃ x,l[i]? =some x:=⟨_,List.getElem?_eq_getElem hlt⟩
   have ih':=ih (i+1) (by omega) (by omega)
   rw[z5g hx] at ih'
   have htl:(l.take i).length≤2000000:=by rw[List.length_take];omega
   generalize l.take i=Q at *
   repeat' (first|(apply z05;(first|refine z0o ?_| (apply z09;(first|refine z02 z1d rfl rfl ?_| refine z02 z27 rfl rfl ?_))|(apply z0d;(refine z02 z0i rfl rfl ?_))|(apply z0f;(refine z02 (z1i (ys:=l.map z2l) rfl (idx hx)) rfl rfl ?_))|(apply z0p;(refine z02 (z0q z1c) rfl rfl ?_))|(apply z0t;(refine z2q (g:=z2l) x rfl ?_))|(apply z0c;(refine z23 ?_))|(apply z0h;(refine z0b z2i ?_))|(apply z0z;(refine z3s ?_))|(apply z1w;(refine z29 rfl ?_))))|(apply z08;(first|refine z0n ?_|apply z07))|(apply z06;(first|apply z0a|apply z00|apply z04|apply z01|apply z03|refine z0g (fun _=>?_) (fun _=>?_)| refine z0j ?_)))
   all_goals try (exfalso;omega)
   all_goals refine z1s 21 1000 ?_
   all_goals exact z0e ih' rfl rfl
 · obtain rfl:i=l.length:=by omega
   rw[List.take_length] at *
   repeat' (first|(apply z05;(refine z0o ?_))|(apply z08;(first|refine z0n ?_|apply z07))|(apply z06;(first|apply z0a|apply z00|apply z04|apply z01|refine z0g (fun _=>?_) (fun _=>?_)| refine z0j ?_)))
   all_goals try (exfalso;omega)
   all_goals refine z1g 1000 rfl ?_
   all_goals exact z0l Tryz.func85 _ z16 ⟨rfl,rfl⟩
def z4j (l:List Arc):List Rx.Rg:=l.map fun x=>(x.1,x.2.1)
theorem zdm (l:List Arc) (hl:l.length≤2000000):z0v Tryz.prog 99 [.d (z95 l)] (.d (rgs (z4j l))):=by
 refine z1e fun H=>?_
 refine z0k Tryz.func99 (by kernel_rfl) rfl (by simp) ?_
 dsimp only[Tryz.f99]
 repeat' (first|(apply z05;(first|refine z0o ?_| (apply z0t;(refine z02 (z1b rfl) rfl rfl ?_))))|(apply z08;(first|refine z0n ?_|apply z07))|(apply z06;(first|apply z0a|apply z00|apply z01)))
 all_goals try (exfalso;omega)
 refine z2e 3 1000 155 2 rfl rfl rfl ?_
 refine z1a ?_
 refine z0e (z1y (fun q:Nat=>⟨22,[(3,.ref (0,1000)),(6,.d (z95 l)),(7,I .i64 l.length),(8,I .i64 (q:Nat))],[(1000,.row 155 2 (((z4j l).take q).map rgc))],H⟩) (fun q=>q≤l.length) (fun q=>l.length-q) ?_ 0 (Nat.zero_le _)) rfl rfl
 rintro i i1 ih
 by_cases hlt:i<l.length
 · obtain⟨x,hx⟩:∃ x,l[i]? =some x:=⟨_,List.getElem?_eq_getElem hlt⟩
   have hr:(z4j l)[i]? =some (x.1,x.2.1):=by rw[z4j,List.getElem?_map,hx];rfl
   have ih':=ih (i+1) (by omega) (by omega)
   rw[z5g hr] at ih'
   have htl:((z4j l).take i).length≤2000000:=by rw[List.length_take];omega
   generalize (z4j l).take i=Q at *
   repeat' (first|(apply z05;(first|refine z0o ?_| (apply z09;(first|refine z02 z1d rfl rfl ?_| refine z02 z27 rfl rfl ?_))|(apply z0d;(refine z02 z0i rfl rfl ?_))|(apply z0f;(refine z02 (z1i (ys:=l.map z2l) rfl (idx hx)) rfl rfl ?_))|(apply z0p;(refine z02 (z0q z1c) rfl rfl ?_))|(apply z0t;(refine z2q (g:=rgc) (x.1,x.2.1) rfl ?_))|(apply z0c;(refine z23 ?_))|(apply z0h;(refine z0b z2i ?_))|(apply z0z;(refine z3s ?_))|(apply z1w;(refine z29 rfl ?_))))|(apply z08;(first|refine z0n ?_|apply z07))|(apply z06;(first|apply z0a|apply z00|apply z04|apply z01|apply z03|refine z0g (fun _=>?_) (fun _=>?_)| refine z0j ?_)))
   all_goals try (exfalso;omega)
   all_goals refine z1s 19 1000 ?_
   all_goals exact z0e ih' rfl rfl
 · obtain rfl:i=l.length:=by omega
   rw[show l.length=(z4j l).length by rw[z4j,List.length_map],List.take_length] at *
   repeat' (first|(apply z05;(refine z0o ?_))|(apply z08;(first|refine z0n ?_|apply z07))|(apply z06;(first|apply z0a|apply z00|apply z04|apply z01|refine z0g (fun _=>?_) (fun _=>?_)| refine z0j ?_)))
   all_goals try (exfalso;omega)
   all_goals refine z1g 1000 rfl ?_
   all_goals exact z0l Tryz.func99 _ z16 ⟨rfl,rfl⟩
end Go.Proofs.YthdfkabdoidjfaaGreatDoor
namespace Go.Proofs.YthdfkabdoidjfaaGreatDoor
open Go.Ab Go.Ax
set_option maxHeartbeats 20000000
set_option maxRecDepth 100000
attribute [local irreducible] Run Ops Op1 z2b Val Tr z0v z2c NF Rel z3w z3x
abbrev ints (l:List Int):D:=.slice (l.map fun x=>[z1m x])
theorem zha (l:List Arc) (cl:List Int) (hl:l.length≤2000000) (hr:∀ x∈l,0≤x.1∧x.1≤x.2.1∧x.2.1≤1114111∧0≤x.2.2∧x.2.2<cl.length):z0v Tryz.prog 81 [.d (z95 l),.d (ints cl)] (.d (z95 (byC cl l))):=by
 refine z1e fun H=>?_
 refine z0k Tryz.func81 (by kernel_rfl) rfl (by simp) ?_
 dsimp only[Tryz.f81]
 repeat' (first|(apply z05;(first|refine z0o ?_| (apply z0t;(refine z02 (z1b rfl) rfl rfl ?_))))|(apply z08;(first|refine z0n ?_|apply z07))|(apply z06;(first|apply z0a|apply z00|apply z01)))
 all_goals try (exfalso;omega)
 refine z2e 5 1000 169 3 rfl rfl rfl ?_
 refine z1a ?_
 refine z0e (z1y (fun q:Nat × List Arc=>⟨67,[(1,.d (ints cl)),(5,.ref (0,1000)),(10,.d (z95 l)),(11,I .i64 l.length),(12,I .i64 (q.1:Nat))],[(1000,.row 169 3 (q.2.map z2l))],H⟩) (fun q=>q.1≤l.length∧q.2.length≤q.1∧(∀ y∈q.2,0≤y.2.1∧y.2.1≤1114111)∧(l.drop q.1).foldl (zax cl) q.2=byC cl l) (fun q=>l.length-q.1) ?_ (0,[]) ⟨Nat.zero_le _,Nat.le_refl _,by simp,rfl⟩) rfl rfl
 rintro⟨i,out⟩ ⟨i1,i2,i3,i4⟩ ih
 simp only at i1 i2 i3 i4 ih ⊢
 by_cases hlt:i<l.length
 · obtain⟨x,hx⟩:∃ x,l[i]? =some x:=⟨_,List.getElem?_eq_getElem hlt⟩
   obtain⟨r1,r2,r3,r4,r5⟩:=hr x (List.mem_of_getElem? hx)
   obtain⟨k,hk⟩:∃ k,cl[x.2.2.toNat]? =some k:=⟨_,List.getElem?_eq_getElem (by omega)⟩
   have hck:clA cl x.2.2=k:=by rw[clA,if_neg (by omega),List.getD,hk];rfl
   rw[drop_cons hx,List.foldl_cons,zax,hck] at i4
   by_cases hneg:k<0
   · rw[if_pos hneg] at i4
     have ih':=ih (i+1,out) ⟨by simp only;omega,by simp only;omega,i3,i4⟩ (by simp only;omega)
     repeat' (first|(apply z05;(first|refine z0o ?_| (apply z09;(first|refine z02 z1d rfl rfl ?_| refine z02 z1p rfl rfl ?_| refine z02 z27 rfl rfl ?_))|(apply z0d;(refine z02 z0i rfl rfl ?_))|(apply z0f;(first|refine z02 (z1i (ys:=l.map z2l) rfl (idx hx)) rfl rfl ?_| refine z02 (z1i (ys:=cl.map fun x=>[z1m x]) rfl (z52 (g:=fun x=>[z1m x]) hk)) rfl rfl ?_))|(apply z0p;(refine z02 (z0q z1c) rfl rfl ?_))|(apply z0t;(refine z02 (z18 rfl) rfl rfl ?_))|(apply z0c;(refine z23 ?_))|(apply z0h;(refine z0b z2i ?_))|(apply z0z;(refine z3s ?_))|(apply z1w;(refine z29 rfl ?_))))|(apply z08;(first|refine z0n ?_|apply z07))|(apply z06;(first|apply z0a|apply z00|refine z11 ?_| apply z04|apply z01|apply z2p|refine z0g (fun _=>?_) (fun _=>?_)| refine z0j ?_))|(apply z2r;(first|(apply z15;refine z1o mix ?_)|refine z2y ?_| refine z2s ?_| (apply z2f;(refine z0m (z22 z1c) rfl rfl ?_))|(refine z1n rfl rfl (fun hg=>?_) (fun hg=>?_) <;> simp only[hg] <;> (try simp only[decide_eq_true_eq,decide_eq_false_iff_not,Bool.not_eq_true',Bool.not_eq_false'] at hg)))))
     all_goals try (exfalso;omega)
     all_goals exact z0e ih' rfl rfl
   · rw[if_neg hneg] at i4
     have hln:=z8z out x.1 x.2.1 k
     have ih':=ih (i+1,ext out x.1 x.2.1 k) ⟨by simp only;omega,by simp only;omega,fun y hy=>by
      rcases ext_mem hy with h|h
      · omega
      · exact i3 y h,i4⟩ (by simp only;omega)
     clear ih hln
     rcases zfn out with rfl|⟨m,y,rfl⟩
     · rw[ext_nil] at ih'
       simp only at ih'
       repeat' (first|(apply z05;(first|refine z0o ?_| (apply z09;(first|refine z02 z1d rfl rfl ?_| refine z02 z1p rfl rfl ?_| refine z02 z27 rfl rfl ?_))|(apply z0d;(refine z02 z0i rfl rfl ?_))|(apply z0f;(first|refine z02 (z1i (ys:=l.map z2l) rfl (idx hx)) rfl rfl ?_| refine z02 (z1i (ys:=cl.map fun x=>[z1m x]) rfl (z52 (g:=fun x=>[z1m x]) hk)) rfl rfl ?_))|(apply z0p;(refine z02 (z0q z1c) rfl rfl ?_))|(apply z0t;(first|refine z02 (zb1 rfl) rfl rfl ?_| refine z50 (g:=z2l) rfl rfl (x.1,x.2.1,k) rfl rfl rfl rfl rfl rfl rfl (by decide) (by simp) ?_))|(apply z0c;(refine z23 ?_))|(apply z0h;(refine z0b z2i ?_))|(apply z0z;(refine z3s ?_))|(apply z1w;(refine z29 rfl ?_))))|(apply z08;(first|refine z0n ?_|apply z07))|(apply z06;(first|apply z0a|apply z00|refine z11 ?_| apply z04|apply z01|apply z2p|apply z03|refine z0g (fun _=>?_) (fun _=>?_)| refine z0j ?_))|(apply z2r;(first|(apply z15;refine z1o mix ?_)|refine z2y ?_| refine z2s ?_)))
       all_goals try (exfalso;first|omega|(simp at *;done))
       all_goals refine z1s 64 1000 ?_
       all_goals exact z0e ih' rfl rfl
     · have hy:=i3 y (by simp)
       have hln:((m++[y]).map z2l).length=m.length+1:=by simp
       have hln2:(m++[y]).length=m.length+1:=by simp
       have hix:(m++[y])[((((((m++[y]).map z2l).length:Nat):Int)-1)).toNat]? =some y:=by
        rw[hln,show (((m.length+1:Nat):Int)-1).toNat=m.length by omega];simp
       have hse:(m++[y]).set ((((((m++[y]).map z2l).length:Nat):Int)-1)).toNat ((y.1,x.2.1,y.2.2):Arc)=m++[(y.1,x.2.1,y.2.2)]:=by
        rw[hln,show (((m.length+1:Nat):Int)-1).toNat=m.length by omega];simp
       rw[z3p] at ih'
       by_cases hj:y.2.1+1=x.1∧y.2.2=k
       · rw[if_pos hj,← hj.2] at ih'
         simp only at ih'
         repeat' (first|(apply z05;(first|refine z0o ?_| (apply z09;(first|refine z02 z1d rfl rfl ?_| refine z02 z1p rfl rfl ?_| refine z02 z27 rfl rfl ?_))|(apply z0d;(first|refine z02 z0i rfl rfl ?_| refine z02 z3u rfl rfl ?_))|(apply z0f;(first|refine z02 (z1i (ys:=l.map z2l) rfl (idx hx)) rfl rfl ?_| refine z02 (z1i (ys:=cl.map fun x=>[z1m x]) rfl (z52 (g:=fun x=>[z1m x]) hk)) rfl rfl ?_| refine z02 (z3g rfl) rfl rfl ?_))|(apply z0p;(first|refine z02 (z0q z1c) rfl rfl ?_| refine z02 (z22 z1c) rfl rfl ?_))|(apply z0t;(first|refine z02 (zb1 rfl) rfl rfl ?_| refine z2q (g:=z2l) (x.1,x.2.1,k) rfl ?_))|(apply z0c;(first|refine z42 ((y.1,x.2.1,y.2.2):Arc) hix hse ?_| refine z23 ?_))|(apply z0h;(refine z0b z2i ?_))|(apply z0z;(refine z3s ?_))|(apply z1w;(refine z29 rfl ?_))))|(apply z08;(first|refine z0n ?_|apply z07))|(apply z06;(first|apply z0a|apply z00|refine z11 ?_| apply z04|apply z01|apply z2p|apply z03|refine z0g (fun _=>?_) (fun _=>?_)| refine z0j ?_))|(apply z2r;(first|(apply z15;refine z1o mix ?_)|refine z2y ?_| refine z2s ?_| (apply z0r;(first|refine z0m (z2d (u:=z3e y.2.1) hix) rfl rfl ?_| refine z0m (z2d (u:=z1m y.2.2) hix) rfl rfl ?_| refine z0m z1d rfl rfl ?_))|(apply z0s;(first|refine z0m z0i rfl rfl ?_| refine z0m z3u rfl rfl ?_))|(apply z14;(refine z0m (z3g rfl) rfl rfl ?_))|(apply z2f;(first|refine z0m (z0q (z8x (by omega) (by omega))) rfl rfl ?_| refine z0m (z22 z1c) rfl rfl ?_))|(refine z1n rfl rfl (fun hg=>?_) (fun hg=>?_) <;> simp only[hg] <;> (try simp only[decide_eq_true_eq,decide_eq_false_iff_not,Bool.not_eq_true',Bool.not_eq_false'] at hg)))))
         all_goals try (exfalso;omega)
         all_goals exact z0e ih' rfl rfl
       · rw[if_neg hj] at ih'
         simp only at ih'
         repeat' (first|(apply z05;(first|refine z0o ?_| (apply z09;(first|refine z02 z1d rfl rfl ?_| refine z02 z1p rfl rfl ?_| refine z02 z27 rfl rfl ?_))|(apply z0d;(first|refine z02 z0i rfl rfl ?_| refine z02 z3u rfl rfl ?_))|(apply z0f;(first|refine z02 (z1i (ys:=l.map z2l) rfl (idx hx)) rfl rfl ?_| refine z02 (z1i (ys:=cl.map fun x=>[z1m x]) rfl (z52 (g:=fun x=>[z1m x]) hk)) rfl rfl ?_| refine z02 (z3g rfl) rfl rfl ?_))|(apply z0p;(first|refine z02 (z0q z1c) rfl rfl ?_| refine z02 (z22 z1c) rfl rfl ?_))|(apply z0t;(first|refine z02 (zb1 rfl) rfl rfl ?_| refine z2q (g:=z2l) (x.1,x.2.1,k) rfl ?_))|(apply z0c;(first|refine z42 ((y.1,x.2.1,y.2.2):Arc) hix hse ?_| refine z23 ?_))|(apply z0h;(refine z0b z2i ?_))|(apply z0z;(refine z3s ?_))|(apply z1w;(refine z29 rfl ?_))))|(apply z08;(first|refine z0n ?_|apply z07))|(apply z06;(first|apply z0a|apply z00|refine z11 ?_| apply z04|apply z01|apply z2p|apply z03|refine z0g (fun _=>?_) (fun _=>?_)| refine z0j ?_))|(apply z2r;(first|(apply z15;refine z1o mix ?_)|refine z2y ?_| refine z2s ?_| (apply z0r;(first|refine z0m (z2d (u:=z3e y.2.1) hix) rfl rfl ?_| refine z0m (z2d (u:=z1m y.2.2) hix) rfl rfl ?_| refine z0m z1d rfl rfl ?_))|(apply z0s;(first|refine z0m z0i rfl rfl ?_| refine z0m z3u rfl rfl ?_))|(apply z14;(refine z0m (z3g rfl) rfl rfl ?_))|(apply z2f;(first|refine z0m (z0q (z8x (by omega) (by omega))) rfl rfl ?_| refine z0m (z22 z1c) rfl rfl ?_))|(refine z1n rfl rfl (fun hg=>?_) (fun hg=>?_) <;> simp only[hg] <;> (try simp only[decide_eq_true_eq,decide_eq_false_iff_not,Bool.not_eq_true',Bool.not_eq_false'] at hg)))))
         all_goals try (exfalso;omega)
         all_goals refine z1s 64 1000 ?_
         all_goals exact z0e ih' rfl rfl
 · obtain rfl:i=l.length:=by omega
   rw[List.drop_length,List.foldl_nil] at i4
   rw[← i4]
   repeat' (first|(apply z05;(refine z0o ?_))|(apply z08;(first|refine z0n ?_|apply z07))|(apply z06;(first|apply z0a|apply z00|apply z04|apply z01|refine z0g (fun _=>?_) (fun _=>?_)| refine z0j ?_)))
   all_goals try (exfalso;omega)
   all_goals refine z1g 1000 rfl ?_
   all_goals exact z0l Tryz.func81 _ z16 ⟨rfl,rfl⟩
end Go.Proofs.YthdfkabdoidjfaaGreatDoor
namespace Go.Proofs.YthdfkabdoidjfaaGreatDoor
open Go.Ab Go.Ax Go.Rx
set_option maxHeartbeats 20000000
set_option maxRecDepth 100000
attribute [local irreducible] Run Ops Op1 z2b Val Tr z0v z2c NF Rel z3w z3x
theorem zi6 (l:List Rg) (hl:l.length≤9223372036854775807) (c:Int):z0v Tryz.prog 62 [.d (rgs l),I .i32 c] (B (inB l c)):=by
 refine z1e fun H=>?_
 refine z0k Tryz.func62 (by kernel_rfl) rfl (by simp) ?_
 dsimp only[Tryz.f62]
 repeat' (first|(apply z05;(first|refine z0o ?_| (apply z0t;(refine z02 (z1b rfl) rfl rfl ?_))))|(apply z08;(first|refine z0n ?_|apply z07))|(apply z06;(first|apply z0a|apply z00|apply z01)))
 all_goals try (exfalso;omega)
 refine z1a ?_
 refine z0e (z1y (fun q:Nat=>⟨24,[(1,I .i32 c),(7,.d (rgs l)),(8,I .i64 l.length),(9,I .i64 (q:Nat))],[],H⟩) (fun q=>q≤l.length∧inB (l.drop q) c=inB l c) (fun q=>l.length-q) ?_ 0 ⟨Nat.zero_le _,rfl⟩) rfl rfl
 intro q ⟨i1,i2⟩ ih
 by_cases hlt:q<l.length
 · obtain⟨r,hr⟩:∃ r,l[q]? =some r:=⟨_,List.getElem?_eq_getElem hlt⟩
   rw[drop_cons hr,inB,List.any_cons,← inB] at i2
   by_cases hc:r.1≤c∧c≤r.2
   · rw[decide_eq_true hc.1,decide_eq_true hc.2,Bool.true_and,Bool.true_or] at i2
     rw[← i2]
     repeat' (first|(apply z05;(first|refine z0o ?_| (apply z09;(first|refine z02 z1d rfl rfl ?_| refine z02 z27 rfl rfl ?_))|(apply z0d;(refine z02 z0i rfl rfl ?_))|(apply z0f;(refine z02 (z1i (ys:=l.map rgc) rfl (idx hr)) rfl rfl ?_))|(apply z0p;(refine z02 (z0q z1c) rfl rfl ?_))|(apply z0c;(refine z23 ?_))|(apply z0h;(refine z0b z2i ?_))))|(apply z08;(first|refine z0n ?_|apply z07|refine z1r ?_| refine z2h (fun _=>?_) (fun _=>?_)))|(apply z06;(first|apply z0a|apply z00|refine z11 ?_| apply z04|apply z01|apply z03|refine z0g (fun _=>?_) (fun _=>?_)| refine z0j ?_)))
     all_goals try (exfalso;omega)
     all_goals exact z0l Tryz.func62 _ z16 ⟨rfl,rfl⟩
   · have hf:(decide (r.1≤c)&&decide (c≤r.2))=false:=by
      rw[← Bool.decide_and];exact decide_eq_false hc
     rw[hf,Bool.false_or] at i2
     repeat' (first|(apply z05;(first|refine z0o ?_| (apply z09;(first|refine z02 z1d rfl rfl ?_| refine z02 z27 rfl rfl ?_))|(apply z0d;(refine z02 z0i rfl rfl ?_))|(apply z0f;(refine z02 (z1i (ys:=l.map rgc) rfl (idx hr)) rfl rfl ?_))|(apply z0p;(refine z02 (z0q z1c) rfl rfl ?_))|(apply z0c;(refine z23 ?_))|(apply z0h;(refine z0b z2i ?_))))|(apply z08;(first|refine z0n ?_|apply z07|refine z1r ?_| refine z2h (fun _=>?_) (fun _=>?_)))|(apply z06;(first|apply z0a|apply z00|refine z11 ?_| apply z04|apply z01|apply z03|refine z0g (fun _=>?_) (fun _=>?_)| refine z0j ?_)))
     all_goals try (exfalso;omega)
     all_goals exact z0e (ih (q+1) ⟨by omega,i2⟩ (by omega)) rfl rfl
 · obtain rfl:q=l.length:=by omega
   rw[List.drop_length,inB,List.any_nil] at i2
   rw[← i2]
   repeat' (first|(apply z05;(refine z0o ?_))|(apply z08;(first|refine z0n ?_|apply z07))|(apply z06;(first|apply z0a|apply z00|apply z04|apply z01|refine z0g (fun _=>?_) (fun _=>?_)| refine z0j ?_)))
   all_goals try (exfalso;omega)
   all_goals exact z0l Tryz.func62 _ z16 ⟨rfl,rfl⟩
def zv8 (p q:Bool) (op:Int):Bool:=if op=1 then p&&q else if op=2 then p||q else if op=3 then p&&!q else if op=4 then p != q else !p
theorem ztw (op:Int) (p q:Bool):z0v Tryz.prog 88 [B p,B q,I .i64 op] (B (zv8 p q op)):=by
 refine z1e fun H=>?_
 refine z0k Tryz.func88 (by kernel_rfl) rfl (by simp) ?_
 dsimp only[Tryz.f88]
 rw[zv8]
 by_cases h1:op=1
 · rw[if_pos h1]
   cases p <;> cases q
   all_goals repeat' (first|(apply z05;(first|refine z0o ?_| (apply z0p;(refine z02 (z8p rfl) rfl rfl ?_))))|(apply z08;(first|refine z0n ?_|apply z07|refine z1r ?_))|(apply z06;(first|apply z0a|apply z00|apply z04|apply z01|apply z03|refine z0g (fun _=>?_) (fun _=>?_))))
   all_goals try (exfalso;omega)
   all_goals exact z0l Tryz.func88 _ z16 ⟨rfl,rfl⟩
 rw[if_neg h1]
 by_cases h2:op=2
 · rw[if_pos h2]
   cases p <;> cases q
   all_goals repeat' (first|(apply z05;(first|refine z0o ?_| (apply z0p;(refine z02 (z8p rfl) rfl rfl ?_))))|(apply z08;(first|refine z0n ?_|apply z07|refine z1r ?_))|(apply z06;(first|apply z0a|apply z00|apply z04|apply z01|apply z03|refine z0g (fun _=>?_) (fun _=>?_))))
   all_goals try (exfalso;omega)
   all_goals exact z0l Tryz.func88 _ z16 ⟨rfl,rfl⟩
 rw[if_neg h2]
 by_cases h3:op=3
 · rw[if_pos h3]
   cases p <;> cases q
   all_goals repeat' (first|(apply z05;(first|refine z0o ?_| (apply z0p;(refine z02 (z8p rfl) rfl rfl ?_))))|(apply z08;(first|refine z0n ?_|apply z07|refine z1r ?_))|(apply z06;(first|apply z0a|apply z00|apply z04|apply z01|apply z03|refine z0g (fun _=>?_) (fun _=>?_))))
   all_goals try (exfalso;omega)
   all_goals exact z0l Tryz.func88 _ z16 ⟨rfl,rfl⟩
 rw[if_neg h3]
 by_cases h4:op=4
 · rw[if_pos h4]
   cases p <;> cases q
   all_goals repeat' (first|(apply z05;(first|refine z0o ?_| (apply z0p;(refine z02 (z8p rfl) rfl rfl ?_))))|(apply z08;(first|refine z0n ?_|apply z07|refine z1r ?_))|(apply z06;(first|apply z0a|apply z00|apply z04|apply z01|apply z03|refine z0g (fun _=>?_) (fun _=>?_))))
   all_goals try (exfalso;omega)
   all_goals exact z0l Tryz.func88 _ z16 ⟨rfl,rfl⟩
 rw[if_neg h4]
 cases p <;> cases q
 all_goals repeat' (first|(apply z05;(first|refine z0o ?_| (apply z0p;(refine z02 (z8p rfl) rfl rfl ?_))))|(apply z08;(first|refine z0n ?_|apply z07|refine z1r ?_))|(apply z06;(first|apply z0a|apply z00|apply z04|apply z01|apply z03|refine z0g (fun _=>?_) (fun _=>?_))))
 all_goals try (exfalso;omega)
 all_goals exact z0l Tryz.func88 _ z16 ⟨rfl,rfl⟩
end Go.Proofs.YthdfkabdoidjfaaGreatDoor
namespace Go.Proofs.YthdfkabdoidjfaaGreatDoor
open Go.Ab Go.Ax Go.Rx
set_option maxHeartbeats 20000000
set_option maxRecDepth 100000
attribute [local irreducible] Run Ops Op1 z2b Val Tr z0v z2c NF Rel z3w z3x
abbrev cps (s:ByteArray) (i:Nat):List Int:=(rst s i).map (·.r)
def y1n (a:Au) (s:ByteArray):Bool:=if vAu a=0∧y3i s=true then a.acc 0 (cps s 0) else false
theorem zxm {a:Au} (hv:y3p a) (k:Nat) (hk:k<a.F.length) (c:Int):∃ l,a.A[k]? =some l∧okA none l∧a.nx (k:Nat) c=nxt l c∧-1≤nxt l c∧nxt l c<a.F.length:=by
 obtain⟨l,hl⟩:∃ l,a.A[k]? =some l:=⟨_,List.getElem?_eq_getElem (by rw[hv.len];exact hk)⟩
 have hla:=hv.arc l (List.mem_of_getElem? hl)
 refine⟨l,hl,hla.1,by rw[Au.nx,Au.arcs,if_neg (by omega),Int.toNat_natCast,List.getD,hl];rfl,zjq (p:=none) hla.1 c,?_⟩
 have key:∀ m:List Arc,(∀ x∈m,x.2.2<a.F.length)→nxt m c<a.F.length:=fun m=>by
  induction m with
  | nil=>intro _;simp only[nxt];have:=hv.pos;omega
  | cons x m ih =>
   intro h
   rw[nxt]
   split
   · exact h x (by simp)
   · exact ih fun y hy=>h y (by simp[hy])
 exact key l fun x hx=>(hla.2 x hx).2.2.2.2
theorem zze (s:ByteArray) (hs:s.size≤1000000):z0v Tryz.prog 40 [S s] (B (y3i s)):=by
 have h:=zy9 s hs
 rw[zvk] at h
 exact h
theorem y0y (a:Au) (hf:zei a) (hl:∀ l∈a.A,l.length≤4611686018427387904) (s:ByteArray) (hs:s.size≤1000000):z0v Tryz.prog 19 [.d (auD a),S s] (B (y1n a s)):=by
 have hv:=zd9 a hf
 have hd:=zze s hs
 refine z1e fun H=>?_
 rw[y1n]
 by_cases h0:vAu a=0
 · rw[h0] at hv
   by_cases h1:y3i s=true
   · have hva:=zet h0
     rw[if_pos ⟨h0,h1⟩]
     rw[h1] at hd
     obtain⟨F,A⟩:=a
     simp only at hl
     refine z0k Tryz.func19 (by kernel_rfl) rfl (by simp) ?_
     dsimp only[Tryz.f19]
     repeat' (first|(apply z05;(first|refine z0o ?_| (apply z09;(refine z02 z3t rfl rfl ?_))|(apply z0u;(first|refine z1j hv ?_| refine z1j hd ?_))|(apply z1q;(refine z0b z25 ?_))|refine zi2 rfl rfl rfl (by decide) ?_))|(apply z08;(first|refine z0n ?_|apply z07))|(apply z06;(first|apply z0a|apply z00|refine z11 ?_| apply z04|apply z01)))
     all_goals try (exfalso;omega)
     refine z1a ?_
     refine z0e (z1y (fun q:Nat × Nat=>⟨35,[(2,.ptr (0,2) 0),(5,I .i64 (q.2:Nat)),(17,.ptr (0,17) 0)],[(17,.siter s q.1),(2,.box [.d (z7a F),.d (.slice (A.map z4a))])],H⟩) (fun q=>q.1≤s.size∧q.2<F.length∧(⟨F,A⟩:Au).acc (q.2:Nat) (cps s q.1)=(⟨F,A⟩:Au).acc 0 (cps s 0)) (fun q=>s.size-q.1) ?_ (0,0) ⟨Nat.zero_le _,hva.pos,rfl⟩) rfl rfl
     rintro⟨q,k⟩ ⟨i1,i2,i3⟩ ih
     simp only at i1 i2 i3 ih ⊢
     by_cases hlt:q<s.size
     · have hd2:=zjl hlt
       have hw:=zm3 s q hlt
       rw[cps,hd2,List.map_cons,Au.acc_cons] at i3
       simp only at i3
       obtain⟨l,hA,hlo,hnx,n0,n1⟩:=zxm hva k i2 ((Utf8.decode s q).1:Nat)
       simp only at hA n1
       rw[hnx] at i3
       have hst:=znv l (hl l (List.mem_of_getElem? hA)) hlo ((Utf8.decode s q).1:Nat)
       generalize nxt l ((Utf8.decode s q).1:Nat)=r at *
       by_cases hr:r<0
       · rw[Au.acc_neg _ _ hr] at i3
         rw[← i3]
         repeat' (first|(apply z05;(first|refine z0o ?_| (apply z09;(first|refine z02 z1d rfl rfl ?_| refine z02 z1p rfl rfl ?_))|(apply z0d;(refine z02 z0i rfl rfl ?_))|(apply z0f;(refine z02 (z1i (ys:=A.map z4a) rfl (idx hA)) rfl rfl ?_))|(apply z0u;(refine z1j hst ?_))|refine z4q hlt rfl rfl (by decide) ?_))|(apply z08;(first|refine z0n ?_|apply z07))|(apply z06;(first|apply z0a|apply z00|refine z1h ?_| apply z04|apply z01|apply z03|refine z0g (fun _=>?_) (fun _=>?_))))
         all_goals try (exfalso;omega)
         all_goals exact z0l Tryz.func19 _ z16 ⟨rfl,rfl⟩
       · obtain⟨r,rfl⟩:∃ r':Nat,r=r':=⟨r.toNat,by omega⟩
         have ih':=ih (q+(Utf8.decode s q).2,r) ⟨by simp only;omega,by simp only;omega,i3⟩ (by simp only;omega)
         repeat' (first|(apply z05;(first|refine z0o ?_| (apply z09;(first|refine z02 z1d rfl rfl ?_| refine z02 z1p rfl rfl ?_))|(apply z0d;(refine z02 z0i rfl rfl ?_))|(apply z0f;(refine z02 (z1i (ys:=A.map z4a) rfl (idx hA)) rfl rfl ?_))|(apply z0u;(refine z1j hst ?_))|refine z4q hlt rfl rfl (by decide) ?_))|(apply z08;(first|refine z0n ?_|apply z07))|(apply z06;(first|apply z0a|apply z00|refine z1h ?_| refine z11 ?_| apply z04|apply z01|apply z03)))
         all_goals try (exfalso;omega)
         all_goals exact z0e ih' rfl rfl
     · rw[cps,zg4 (by omega),List.map_nil,Au.acc_nil,Au.fin,if_neg (by omega),Int.toNat_natCast] at i3
       obtain⟨b,hb⟩:∃ b,F[k]? =some b:=⟨_,List.getElem?_eq_getElem i2⟩
       simp only[List.getD,hb,Option.getD_some] at i3
       rw[← i3]
       repeat' (first|(apply z05;(first|refine z0o ?_| (apply z09;(first|refine z02 z1d rfl rfl ?_| refine z02 z1p rfl rfl ?_))|(apply z0d;(refine z02 z0i rfl rfl ?_))|(apply z0f;(refine z02 (z1i (ys:=F.map fun b=>[z7l b]) rfl (idx (g:=fun b=>[z7l b]) hb)) rfl rfl ?_))|refine z6w hlt rfl rfl (by decide) ?_))|(apply z08;(first|refine z0n ?_|apply z07))|(apply z06;(first|apply z0a|apply z00|refine z11 ?_| refine z0j ?_)))
       all_goals try (exfalso;omega)
       all_goals exact z0l Tryz.func19 _ z16 ⟨rfl,rfl⟩
   · rw[if_neg (fun h=>h1 h.2)]
     rw[Bool.not_eq_true] at h1
     rw[h1] at hd
     refine z0k Tryz.func19 (by kernel_rfl) rfl (by simp) ?_
     dsimp only[Tryz.f19]
     repeat' (first|(apply z05;(first|refine z0o ?_| (apply z09;(refine z02 z3t rfl rfl ?_))|(apply z0u;(first|refine z1j hv ?_| refine z1j hd ?_))|(apply z1q;(refine z0b z25 ?_))))|(apply z08;(first|refine z0n ?_|apply z07))|(apply z06;(first|apply z0a|apply z00|refine z1h ?_)))
     all_goals try (exfalso;omega)
     all_goals exact z0l Tryz.func19 _ z16 ⟨rfl,rfl⟩
 · rw[if_neg (fun h=>h0 h.1)]
   generalize vAu a=v at *
   refine z0k Tryz.func19 (by kernel_rfl) rfl (by simp) ?_
   dsimp only[Tryz.f19]
   repeat' (first|(apply z05;(first|refine z0o ?_| (apply z09;(refine z02 z3t rfl rfl ?_))|(apply z0u;(first|refine z1j hv ?_| refine z1j hd ?_))|(apply z1q;(refine z0b z25 ?_))))|(apply z08;(first|refine z0n ?_|apply z07|refine z1r ?_| refine z8t rfl rfl (fun _=>?_) (fun _=>?_)))|(apply z06;(first|apply z0a|apply z00|refine z1h ?_| apply z04|refine zdl rfl (fun _=>?_) (fun _=>?_))))
   all_goals try (exfalso;omega)
   all_goals exact z0l Tryz.func19 _ z16 ⟨rfl,rfl⟩
end Go.Proofs.YthdfkabdoidjfaaGreatDoor
