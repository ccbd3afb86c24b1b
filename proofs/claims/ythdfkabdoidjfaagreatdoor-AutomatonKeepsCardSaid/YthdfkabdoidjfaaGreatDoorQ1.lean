/- A part of the proof: A1, A2, A6, A7, A8, A9, A4. -/
import Derived.Test.YthdfkabdoidjfaaGreatDoorQt
import Derived.Test.YthdfkabdoidjfaaGreatDoorQy
import Derived.Test.YthdfkabdoidjfaaGreatDoorQc
import Derived.Test.YthdfkabdoidjfaaGreatDoorQr
import Derived.Test.YthdfkabdoidjfaaGreatDoorQz
import Derived.Test.YthdfkabdoidjfaaGreatDoorQx
import Derived.Test.YthdfkabdoidjfaaGreatDoorQv
set_option linter.all false
set_option linter.unusedVariables false
set_option linter.unusedSimpArgs false
namespace Go.Proofs.YthdfkabdoidjfaaGreatDoor
open Go.Ab Go.Ax
set_option maxHeartbeats 20000000
set_option maxRecDepth 100000
attribute [local irreducible] Run Ops Op1 z1t Val Tr z11 z1s NF Rel z43 z42
abbrev z2r (x:Arc):List D:=[z5p x.1,z5p x.2.1,z2o x.2.2]
abbrev za6 (l:List Arc):D:=.slice (l.map z2r)
abbrev z4v (l:List Arc):List D:=[za6 l]
abbrev zhq (F:List Bool):D:=.slice (F.map fun b=>[zaj b])
abbrev auc (a:Au):List D:=[zhq a.F,.slice (a.A.map z4v)]
abbrev auD (a:Au):D:=.agg (auc a)
def zgc (a:Au):Prop:=a.F.length≤9223372036854775807∧a.A.length≤9223372036854775807∧∀ l∈a.A,l.length≤9223372036854775807
def zsz (l:List Arc) (i:Nat):Option Arc:=if i=0 then none else l[i-1]?
theorem z9k (a:Au) (hf:zgc a):z11 Tryz.prog 16 [.d (auD a)] (I .i64 (vAu a)):=by
 obtain⟨F,A⟩:=a
 obtain⟨f1,f2,f3⟩:=hf
 simp only at f1 f2 f3
 refine z1j fun H=>?_
 refine z0j Tryz.func16 (by kernel_rfl) rfl (by simp) ?_
 dsimp only[Tryz.f16]
 rw[vAu]
 simp only
 by_cases h1:256<F.length
 · rw[if_pos h1]
   repeat' (first|(apply z07;(first|refine z0o ?_| (apply z06;(refine z02 z1c rfl rfl ?_))|(apply z0d;(refine z02 z0i rfl rfl ?_))|(apply z10;(refine z02 (z1f rfl) rfl rfl ?_))|(apply z1p;(refine z05 z22 ?_))))|(apply z09;(first|refine z0n ?_|apply z0a|refine z29 ?_| refine z2z (fun _=>?_) (fun _=>?_)))|(apply z08;(first|apply z0b|apply z00|refine z1i ?_| apply z04|apply z01|apply z03|refine z0h (fun _=>?_) (fun _=>?_)| refine z56 rfl (fun _=>?_) (fun _=>?_))))
   all_goals try (exfalso;simp only[List.length_map] at *;omega)
   all_goals exact z0k Tryz.func16 _ z19 ⟨rfl,rfl⟩
 rw[if_neg h1]
 by_cases h2:F.length=0∨A.length≠F.length
 · rw[if_pos h2]
   repeat' (first|(apply z07;(first|refine z0o ?_| (apply z06;(refine z02 z1c rfl rfl ?_))|(apply z0d;(refine z02 z0i rfl rfl ?_))|(apply z10;(refine z02 (z1f rfl) rfl rfl ?_))|(apply z1p;(refine z05 z22 ?_))))|(apply z09;(first|refine z0n ?_|apply z0a|refine z29 ?_| refine z2z (fun _=>?_) (fun _=>?_)))|(apply z08;(first|apply z0b|apply z00|refine z1i ?_| apply z04|apply z01|apply z03|refine z0h (fun _=>?_) (fun _=>?_)| refine z56 rfl (fun _=>?_) (fun _=>?_))))
   all_goals try (exfalso;simp only[List.length_map] at *;omega)
   all_goals exact z0k Tryz.func16 _ z19 ⟨rfl,rfl⟩
 rw[if_neg h2]
 have e1:A.length=F.length:=by omega
 have e2:0<F.length:=by omega
 repeat' (first|(apply z07;(first|refine z0o ?_| (apply z06;(refine z02 z1c rfl rfl ?_))|(apply z0d;(refine z02 z0i rfl rfl ?_))|(apply z10;(refine z02 (z1f rfl) rfl rfl ?_))|(apply z1p;(refine z05 z22 ?_))))|(apply z09;(first|refine z0n ?_|apply z0a|refine z29 ?_| refine z2z (fun _=>?_) (fun _=>?_)))|(apply z08;(first|apply z0b|apply z00|refine z1i ?_| apply z04|apply z01|apply z03|refine z0h (fun _=>?_) (fun _=>?_)| refine z56 rfl (fun _=>?_) (fun _=>?_))))
 all_goals try (exfalso;simp only[List.length_map] at *;omega)
 refine z1g ?_
 refine z0f (z2i (fun q:Nat=>⟨99,[(1,.ptr (0,1) 0),(3,I .i64 F.length),(25,.d (.slice (A.map z4v))),(26,I .i64 A.length),(27,I .i64 (q:Nat))],[(1,.box [.d (zhq F),.d (.slice (A.map z4v))])],H⟩) (fun q=>q≤A.length∧zcc F.length (A.drop q)=zcc F.length A) (fun q=>A.length-q) ?_ 0 ⟨Nat.zero_le _,rfl⟩) rfl rfl
 rintro i ⟨i1,i2⟩ ih
 by_cases hlt:i<A.length
 · obtain⟨l,hl⟩:∃ l,A[i]? =some l:=⟨_,List.getElem?_eq_getElem hlt⟩
   have hlm:=f3 l (List.mem_of_getElem? hl)
   rw[drop_cons hl,zcc] at i2
   repeat' (first|(apply z07;(first|refine z0o ?_| (apply z06;(refine z02 z2d rfl rfl ?_))|(apply z0g;(refine z02 (z1x (ys:=A.map z4v) rfl (idx hl)) rfl rfl ?_))|(apply z10;(refine z02 (z1f rfl) rfl rfl ?_))))|(apply z09;(first|refine z0n ?_|apply z0a))|(apply z08;(first|apply z0b|apply z00|apply z04|apply z01|refine z0h (fun _=>?_) (fun _=>?_)| refine z0m ?_)))
   all_goals try (exfalso;omega)
   refine z1g ?_
   refine z0f (z2i (fun q:Nat=>⟨99,[(1,.ptr (0,1) 0),(3,I .i64 F.length),(25,.d (.slice (A.map z4v))),(26,I .i64 A.length),(27,I .i64 (i:Nat)),(5,.d (za6 l)),(31,.d (za6 l)),(32,I .i64 l.length),(33,I .i64 (q:Nat))],[(1,.box [.d (zhq F),.d (.slice (A.map z4v))])],H⟩) (fun q=>q≤l.length∧zhj F.length (zsz l q) (l.drop q)=zhj F.length none l∧∀ y,zsz l q=some y→0≤y.1∧y.1≤y.2.1∧y.2.1≤1114111) (fun q=>l.length-q) ?_ 0 ⟨Nat.zero_le _,rfl,by intro y hy;cases hy⟩) rfl rfl
   rintro k ⟨k1,k2,k3⟩ ihk
   by_cases hk:k<l.length
   · obtain⟨x,hx⟩:∃ x,l[k]? =some x:=⟨_,List.getElem?_eq_getElem hk⟩
     have hpk:zsz l (k+1)=some x:=by rw[zsz,if_neg (by omega)];exact hx
     rw[drop_cons hx,zbk] at k2
     by_cases hb:zri F.length x=true
     · rw[if_pos hb] at k2
       rw[← k2,if_pos (by decide)] at i2
       rw[← i2]
       simp only[zri,Bool.or_eq_true,decide_eq_true_eq] at hb
       repeat' (first|(apply z07;(first|refine z0o ?_| (apply z06;(first|refine z02 z1c rfl rfl ?_| refine z02 z1u rfl rfl ?_))|(apply z0d;(refine z02 z0i rfl rfl ?_))|(apply z0g;(refine z02 (z1x (ys:=l.map z2r) rfl (idx hx)) rfl rfl ?_))|(apply z0y;(refine z02 (z0v z1e) rfl rfl ?_))|(apply z0c;(refine z1r ?_))|(apply z0e;(refine z05 z2e ?_))))|(apply z09;(first|refine z0n ?_|apply z0a))|(apply z08;(first|apply z0b|apply z00|refine z14 ?_| apply z04|apply z01|apply z38|apply z03|refine z0h (fun _=>?_) (fun _=>?_)| refine z0m ?_))|(apply z34;(first|(apply z1a;refine z1q mix ?_)|refine z36 ?_| refine z3a ?_| (apply z0s;(refine z0l z1c rfl rfl ?_))|(apply z0p;(refine z0l z0i rfl rfl ?_))|(apply z1z;(refine z0l (z1y z1e) rfl rfl ?_))|(refine z1o rfl rfl (fun hg=>?_) (fun hg=>?_) <;> simp only[hg] <;> (try simp only[decide_eq_true_eq,decide_eq_false_iff_not,Bool.not_eq_true',Bool.not_eq_false'] at hg)))))
       all_goals try (exfalso;omega)
       all_goals exact z0k Tryz.func16 _ z19 ⟨rfl,rfl⟩
     · rw[if_neg hb] at k2
       simp only[zri,Bool.or_eq_true,decide_eq_true_eq,not_or] at hb
       cases k with
       | zero =>
        rw[show zsz l 0=none from rfl] at k2
        simp only at k2
        have ihk':=ihk 1 ⟨by omega,by rw[hpk];exact k2,fun y hy=>by rw[hpk] at hy;cases hy;omega⟩ (by omega)
        repeat' (first|(apply z07;(first|refine z0o ?_| (apply z06;(first|refine z02 z1c rfl rfl ?_| refine z02 z1u rfl rfl ?_))|(apply z0d;(refine z02 z0i rfl rfl ?_))|(apply z0g;(refine z02 (z1x (ys:=l.map z2r) rfl (idx hx)) rfl rfl ?_))|(apply z0y;(refine z02 (z0v z1e) rfl rfl ?_))|(apply z0c;(refine z1r ?_))|(apply z0e;(refine z05 z2e ?_))))|(apply z09;(first|refine z0n ?_|apply z0a))|(apply z08;(first|apply z0b|apply z00|refine z14 ?_| apply z04|apply z01|apply z38|apply z03|refine z0h (fun _=>?_) (fun _=>?_)| refine z0m ?_))|(apply z34;(first|(apply z1a;refine z1q mix ?_)|refine z36 ?_| refine z3a ?_)))
        all_goals try (exfalso;omega)
        all_goals exact z0f ihk' rfl rfl
       | succ k =>
        obtain⟨y,hy⟩:∃ y,l[k]? =some y:=⟨_,List.getElem?_eq_getElem (by omega)⟩
        have hpy:zsz l (k+1)=some y:=by rw[zsz,if_neg (by omega)];exact hy
        have hyi:l[(((k+1:Nat):Int)-1).toNat]? =some y:=by rw[show (((k+1:Nat):Int)-1).toNat=k by omega];exact hy
        have hyr:=k3 y hpy
        rw[hpy] at k2
        simp only at k2
        by_cases ho:zre y x=true
        · rw[if_pos ho] at k2
          rw[← k2,if_pos (by decide)] at i2
          rw[← i2]
          simp only[zre,Bool.or_eq_true,Bool.and_eq_true,decide_eq_true_eq] at ho
          repeat' (first|(apply z07;(first|refine z0o ?_| (apply z06;(first|refine z02 z1c rfl rfl ?_| refine z02 z1u rfl rfl ?_))|(apply z0d;(refine z02 z0i rfl rfl ?_))|(apply z0g;(refine z02 (z1x (ys:=l.map z2r) rfl (idx hx)) rfl rfl ?_))|(apply z0y;(refine z02 (z0v z1e) rfl rfl ?_))|(apply z0c;(refine z1r ?_))|(apply z0e;(refine z05 z2e ?_))))|(apply z09;(first|refine z0n ?_|apply z0a))|(apply z08;(first|apply z0b|apply z00|refine z14 ?_| apply z04|apply z01|apply z38|apply z03|refine z0h (fun _=>?_) (fun _=>?_)| refine z0m ?_))|(apply z34;(first|(apply z1a;refine z1q mix ?_)|refine z36 ?_| refine z3a ?_| (apply z0s;(first|refine z0l z1c rfl rfl ?_| refine z0l z2d rfl rfl ?_))|(apply z0p;(first|refine z0l z0i rfl rfl ?_| refine z0l (z7m rfl rfl) rfl rfl ?_))|(apply z15;(refine z0l (z1x (ys:=l.map z2r) rfl (zf2 hyi)) rfl rfl ?_))|(apply z1z;(first|refine z0l (z0v (zal (by omega) (by omega))) rfl rfl ?_| refine z0l (z1y z1e) rfl rfl ?_))|(refine z1o rfl rfl (fun hg=>?_) (fun hg=>?_) <;> simp only[hg] <;> (try simp only[decide_eq_true_eq,decide_eq_false_iff_not,Bool.not_eq_true',Bool.not_eq_false'] at hg)))))
          all_goals try (exfalso;omega)
          all_goals exact z0k Tryz.func16 _ z19 ⟨rfl,rfl⟩
        · rw[if_neg ho] at k2
          simp only[zre,Bool.or_eq_true,Bool.and_eq_true,decide_eq_true_eq,not_or,not_and] at ho
          have ihk':=ihk (k+2) ⟨by omega,by rw[hpk];exact k2,fun y hy=>by rw[hpk] at hy;cases hy;omega⟩ (by omega)
          repeat' (first|(apply z07;(first|refine z0o ?_| (apply z06;(first|refine z02 z1c rfl rfl ?_| refine z02 z1u rfl rfl ?_))|(apply z0d;(refine z02 z0i rfl rfl ?_))|(apply z0g;(refine z02 (z1x (ys:=l.map z2r) rfl (idx hx)) rfl rfl ?_))|(apply z0y;(refine z02 (z0v z1e) rfl rfl ?_))|(apply z0c;(refine z1r ?_))|(apply z0e;(refine z05 z2e ?_))))|(apply z09;(first|refine z0n ?_|apply z0a))|(apply z08;(first|apply z0b|apply z00|refine z14 ?_| apply z04|apply z01|apply z38|apply z03|refine z0h (fun _=>?_) (fun _=>?_)| refine z0m ?_))|(apply z34;(first|(apply z1a;refine z1q mix ?_)|refine z36 ?_| refine z3a ?_| (apply z0s;(first|refine z0l z1c rfl rfl ?_| refine z0l z2d rfl rfl ?_))|(apply z0p;(first|refine z0l z0i rfl rfl ?_| refine z0l (z7m rfl rfl) rfl rfl ?_))|(apply z15;(refine z0l (z1x (ys:=l.map z2r) rfl (zf2 hyi)) rfl rfl ?_))|(apply z1z;(first|refine z0l (z0v (zal (by omega) (by omega))) rfl rfl ?_| refine z0l (z1y z1e) rfl rfl ?_))|(refine z1o rfl rfl (fun hg=>?_) (fun hg=>?_) <;> simp only[hg] <;> (try simp only[decide_eq_true_eq,decide_eq_false_iff_not,Bool.not_eq_true',Bool.not_eq_false'] at hg)))))
          all_goals try (exfalso;omega)
          all_goals exact z0f ihk' rfl rfl
   · obtain rfl:k=l.length:=by omega
     rw[List.drop_length,zhj] at k2
     rw[← k2,if_neg (by decide)] at i2
     repeat' (first|(apply z07;(first|refine z0o ?_| (apply z0y;(refine z02 (z0v z1e) rfl rfl ?_))))|(apply z09;(first|refine z0n ?_|apply z0a))|(apply z08;(first|apply z0b|apply z00|apply z04|apply z01|apply z03|refine z0h (fun _=>?_) (fun _=>?_)| refine z0m ?_)))
     all_goals try (exfalso;omega)
     all_goals exact z0f (ih (i+1) ⟨by omega,i2⟩ (by omega)) rfl rfl
 · obtain rfl:i=A.length:=by omega
   rw[List.drop_length,zcc] at i2
   rw[← i2]
   repeat' (first|(apply z07;(refine z0o ?_))|(apply z09;(first|refine z0n ?_|apply z0a))|(apply z08;(first|apply z0b|apply z00|apply z04|apply z01|refine z0h (fun _=>?_) (fun _=>?_)| refine z0m ?_)))
   all_goals try (exfalso;omega)
   all_goals exact z0k Tryz.func16 _ z19 ⟨rfl,rfl⟩
end Go.Proofs.YthdfkabdoidjfaaGreatDoor
namespace Go.Proofs.YthdfkabdoidjfaaGreatDoor
open Go.Ab Go.Ax
set_option maxHeartbeats 20000000
set_option maxRecDepth 100000
attribute [local irreducible] Run Ops Op1 z1t Val Tr z11 z1s NF Rel z43 z42
def zwq (a b:Int):Int:=if a<b then -1 else if b<a then 1 else 0
theorem zdv (a:Int):z11 Tryz.prog 112 [I .i32 a] (B false):=by
 refine z1j fun H=>?_
 refine z0j Tryz.func112 (by kernel_rfl) rfl (by simp) ?_
 dsimp only[Tryz.f112]
 repeat' (first|(apply z07;(refine z0o ?_))|(apply z09;(first|refine z0n ?_|apply z0a))|(apply z08;(first|apply z0b|apply z00)))
 all_goals try (exfalso;omega)
 all_goals exact z0k Tryz.func112 _ (zm3 rfl (by simp only[ne_eq,not_true_eq_false,decide_false];rfl)) ⟨rfl,rfl⟩
theorem zmn (a b:Int):z11 Tryz.prog 76 [I .i32 a,I .i32 b] (I .i64 (zwq a b)):=by
 refine z1j fun H=>?_
 have h1:=zdv a
 have h2:=zdv b
 refine z0j Tryz.func76 (by kernel_rfl) rfl (by simp) ?_
 dsimp only[Tryz.f76]
 rw[zwq]
 by_cases c1:a<b
 · rw[if_pos c1]
   repeat' (first|(apply z07;(first|refine z0o ?_| (apply z0t;(first|refine z1h h1 ?_| refine z1h h2 ?_))))|(apply z09;(first|refine z0n ?_|apply z0a))|(apply z08;(first|apply z0b|apply z00|refine z14 ?_| apply z04|refine z0h (fun _=>?_) (fun _=>?_))))
   all_goals try (exfalso;omega)
   all_goals exact z0k Tryz.func76 _ z19 ⟨rfl,rfl⟩
 · rw[if_neg c1]
   by_cases c2:b<a
   · rw[if_pos c2]
     repeat' (first|(apply z07;(first|refine z0o ?_| (apply z0t;(first|refine z1h h1 ?_| refine z1h h2 ?_))))|(apply z09;(first|refine z0n ?_|apply z0a))|(apply z08;(first|apply z0b|apply z00|refine z14 ?_| apply z04|refine z0h (fun _=>?_) (fun _=>?_))))
     all_goals try (exfalso;omega)
     all_goals exact z0k Tryz.func76 _ z19 ⟨rfl,rfl⟩
   · rw[if_neg c2]
     repeat' (first|(apply z07;(first|refine z0o ?_| (apply z0t;(first|refine z1h h1 ?_| refine z1h h2 ?_))))|(apply z09;(first|refine z0n ?_|apply z0a))|(apply z08;(first|apply z0b|apply z00|refine z14 ?_| apply z04|refine z0h (fun _=>?_) (fun _=>?_))))
     all_goals try (exfalso;omega)
     all_goals exact z0k Tryz.func76 _ z19 ⟨rfl,rfl⟩
theorem znf (x:Arc) (c:Int):z11 Tryz.prog 75 [.d (.agg (z2r x)),I .i32 c] (I .i64 (zwq x.2.1 c)):=by
 refine z1j fun H=>?_
 have h1:=zmn x.2.1 c
 refine z0j Tryz.func75 (by kernel_rfl) rfl (by simp) ?_
 dsimp only[Tryz.f75]
 repeat' (first|(apply z07;(first|refine z0o ?_| (apply z06;(refine z02 z1c rfl rfl ?_))|(apply z0d;(refine z02 z0i rfl rfl ?_))|(apply z0t;(refine z1h h1 ?_))|(apply z1p;(refine z05 z22 ?_))))|(apply z09;(first|refine z0n ?_|apply z0a))|(apply z08;(first|apply z0b|apply z00)))
 all_goals try (exfalso;omega)
 all_goals exact z0k Tryz.func75 _ z19 ⟨rfl,rfl⟩
theorem zmq (l:List Arc) (hl:l.length≤4611686018427387904) (ho:okA none l) (c:Int):z11 Tryz.prog 74 [.d (za6 l),I .i32 c,.fn (.func 75) [] []] (.tup [I .i64 (zeg c l:Nat),B (match l[zeg c l]? with|some x=>decide (x.2.1=c)|none=>false)]):=by
 refine z1j fun H=>?_
 have hmono:=zjp ho
 refine z0j Tryz.func74 (by kernel_rfl) rfl (by simp) ?_
 dsimp only[Tryz.f74]
 repeat' (first|(apply z07;(first|refine z0o ?_| (apply z10;(refine z02 (z1f rfl) rfl rfl ?_))))|(apply z09;(first|refine z0n ?_|apply z0a))|(apply z08;(first|apply z0b|apply z00|apply z01)))
 all_goals try (exfalso;omega)
 refine z1g ?_
 refine z0f (z2i (fun q:Nat × Nat=>⟨49,[(0,.d (za6 l)),(1,I .i32 c),(2,.fn (.func 75) [] []),(8,I .i64 l.length),(9,I .i64 (q.1:Nat)),(10,I .i64 (q.2:Nat))],[],H⟩) (fun q=>q.1≤q.2∧q.2≤l.length∧(∀ p x,p<q.1→l[p]? =some x→x.2.1<c)∧∀ p x,q.2≤p→l[p]? =some x→¬ x.2.1<c) (fun q=>q.2-q.1) ?_ (0,l.length) ⟨Nat.zero_le _,Nat.le_refl _,fun p x h=>absurd h (Nat.not_lt_zero _),fun p x h1 h2=>by have:=(List.getElem?_eq_some_iff.1 h2).1;omega⟩) rfl rfl
 rintro⟨i,j⟩ ⟨i1,i2,i3,i4⟩ ih
 simp only at i1 i2 i3 i4 ih ⊢
 by_cases hlt:i<j
 · have hh:((((i:Nat):Int)+((j:Nat):Int)) / 2)=(((i+j) / 2:Nat):Int):=by omega
   obtain⟨x,hx⟩:∃ x,l[(i+j) / 2]? =some x:=⟨_,List.getElem?_eq_getElem (by omega)⟩
   have hxi:l[((((i:Nat):Int)+((j:Nat):Int)) / 2).toNat]? =some x:=by rw[hh,Int.toNat_natCast];exact hx
   have hc:=znf x c
   rw[zwq] at hc
   by_cases hlo:x.2.1<c
   · rw[if_pos hlo] at hc
     have ih':=ih ((i+j) / 2+1,j) ⟨by simp only;omega,i2,fun p y hp hy=>by have:=hmono p _ y x (by simp only at hp;omega) hy hx;omega,i4⟩ (by simp only;omega)
     rw[show (((i+j) / 2+1:Nat):Int)=(((i:Nat):Int)+((j:Nat):Int)) / 2+1 by omega] at ih'
     repeat' (first|(apply z07;(first|refine z0o ?_| (apply z06;(refine z02 z1u rfl rfl ?_))|(apply z0g;(refine z02 (z1x (ys:=l.map z2r) rfl (zf2 hxi)) rfl rfl ?_))|(apply z0y;(first|refine z02 (zek (by omega)) rfl rfl ?_| refine z02 (z0v z1e) rfl rfl ?_))|(apply z0t;(refine za9 (first:=[]) (cap:=[]) (ps:=[.d (.agg (z2r x)),I .i32 c]) hc rfl rfl (by decide) ?_))|(apply z8a;(first|refine z02 (z5v rfl rfl (zq8 (by omega) (by omega))) rfl rfl ?_| refine z02 (z5v rfl rfl z1e) rfl rfl ?_))))|(apply z09;(first|refine z0n ?_|apply z0a|refine z29 ?_| refine z2z (fun _=>?_) (fun _=>?_)))|(apply z08;(first|apply z0b|apply z00|refine z1i ?_| apply z04|apply z01|apply z03|refine z0h (fun _=>?_) (fun _=>?_)| refine z0m ?_)))
     all_goals try (exfalso;omega)
     all_goals exact z0f ih' rfl rfl
   · have ih':=ih (i,(i+j) / 2) ⟨by simp only;omega,by simp only;omega,i3,fun p y hp hy=>by have:=hmono _ p x y hp hx hy;omega⟩ (by simp only;omega)
     rw[hh.symm] at ih'
     rw[if_neg hlo] at hc
     have hc0:0≤(if c<x.2.1 then (1:Int) else 0):=by split <;> omega
     generalize (if c<x.2.1 then (1:Int) else 0)=cc at *
     repeat' (first|(apply z07;(first|refine z0o ?_| (apply z06;(refine z02 z1u rfl rfl ?_))|(apply z0g;(refine z02 (z1x (ys:=l.map z2r) rfl (zf2 hxi)) rfl rfl ?_))|(apply z0y;(first|refine z02 (zek (by omega)) rfl rfl ?_| refine z02 (z0v z1e) rfl rfl ?_))|(apply z0t;(refine za9 (first:=[]) (cap:=[]) (ps:=[.d (.agg (z2r x)),I .i32 c]) hc rfl rfl (by decide) ?_))|(apply z8a;(first|refine z02 (z5v rfl rfl (zq8 (by omega) (by omega))) rfl rfl ?_| refine z02 (z5v rfl rfl z1e) rfl rfl ?_))))|(apply z09;(first|refine z0n ?_|apply z0a|refine z29 ?_| refine z2z (fun _=>?_) (fun _=>?_)))|(apply z08;(first|apply z0b|apply z00|apply z04|apply z01|apply z03|refine z0h (fun _=>?_) (fun _=>?_)| refine z0m ?_)))
     all_goals try (exfalso;omega)
     all_goals exact z0f ih' rfl rfl
 · obtain rfl:i=j:=by omega
   have hcut:=zvp (c:=c) i2 i3 (fun x hx=>i4 i x (Nat.le_refl _) hx)
   rw[← hcut]
   clear ih
   by_cases hin:i<l.length
   · obtain⟨x,hx⟩:∃ x,l[i]? =some x:=⟨_,List.getElem?_eq_getElem hin⟩
     have hnl:=i4 i x (Nat.le_refl _) hx
     have hc:=znf x c
     rw[zwq,if_neg hnl] at hc
     rw[hx]
     simp only
     by_cases he:c<x.2.1
     · rw[if_pos he] at hc
       rw[show decide (x.2.1=c)=false by simp;omega]
       repeat' (first|(apply z07;(first|refine z0o ?_| (apply z06;(refine z02 z1u rfl rfl ?_))|(apply z0g;(refine z02 (z1x (ys:=l.map z2r) rfl (idx hx)) rfl rfl ?_))|(apply z0y;(first|refine z02 (z0v z1e) rfl rfl ?_| refine z02 (zek (by omega)) rfl rfl ?_))|(apply z0t;(refine za9 (first:=[]) (cap:=[]) (ps:=[.d (.agg (z2r x)),I .i32 c]) hc rfl rfl (by decide) ?_))|(apply z8a;(first|refine z02 (z5v rfl rfl (zq8 (by omega) (by omega))) rfl rfl ?_| refine z02 (z5v rfl rfl z1e) rfl rfl ?_))))|(apply z09;(first|refine z0n ?_|apply z0a|refine z29 ?_| refine z2z (fun _=>?_) (fun _=>?_)))|(apply z08;(first|apply z0b|apply z00|apply z04|apply z01|refine z0h (fun _=>?_) (fun _=>?_)| refine z0m ?_)))
       all_goals try (exfalso;omega)
       all_goals exact z0k Tryz.func74 _ (z47 rfl rfl rfl) ⟨rfl,rfl⟩
     · rw[if_neg he] at hc
       rw[show decide (x.2.1=c)=true by simp;omega]
       repeat' (first|(apply z07;(first|refine z0o ?_| (apply z06;(refine z02 z1u rfl rfl ?_))|(apply z0g;(refine z02 (z1x (ys:=l.map z2r) rfl (idx hx)) rfl rfl ?_))|(apply z0y;(first|refine z02 (z0v z1e) rfl rfl ?_| refine z02 (zek (by omega)) rfl rfl ?_))|(apply z0t;(refine za9 (first:=[]) (cap:=[]) (ps:=[.d (.agg (z2r x)),I .i32 c]) hc rfl rfl (by decide) ?_))|(apply z8a;(first|refine z02 (z5v rfl rfl (zq8 (by omega) (by omega))) rfl rfl ?_| refine z02 (z5v rfl rfl z1e) rfl rfl ?_))))|(apply z09;(first|refine z0n ?_|apply z0a|refine z29 ?_| refine z2z (fun _=>?_) (fun _=>?_)))|(apply z08;(first|apply z0b|apply z00|apply z04|apply z01|refine z0h (fun _=>?_) (fun _=>?_)| refine z0m ?_)))
       all_goals try (exfalso;omega)
       all_goals exact z0k Tryz.func74 _ (z47 rfl rfl rfl) ⟨rfl,rfl⟩
   · rw[List.getElem?_eq_none (by omega)]
     repeat' (first|(apply z07;(first|refine z0o ?_| (apply z0y;(first|refine z02 (z0v z1e) rfl rfl ?_| refine z02 (zek (by omega)) rfl rfl ?_))|(apply z8a;(first|refine z02 (z5v rfl rfl (zq8 (by omega) (by omega))) rfl rfl ?_| refine z02 (z5v rfl rfl z1e) rfl rfl ?_))))|(apply z09;(first|refine z0n ?_|apply z0a|refine z29 ?_| refine z2z (fun _=>?_) (fun _=>?_)))|(apply z08;(first|apply z0b|apply z00|apply z04|apply z01|refine z0h (fun _=>?_) (fun _=>?_)| refine z0m ?_)))
     all_goals try (exfalso;omega)
     all_goals exact z0k Tryz.func74 _ (z47 rfl rfl rfl) ⟨rfl,rfl⟩
theorem zoa (l:List Arc) (hl:l.length≤4611686018427387904) (ho:okA none l) (c:Int):z11 Tryz.prog 41 [.d (za6 l),I .i32 c] (I .i64 (nxt l c)):=by
 refine z1j fun H=>?_
 have hb:=zmq l hl ho c
 have hcl:=zno c l
 rw[znx ho]
 refine z0j Tryz.func41 (by kernel_rfl) rfl (by simp) ?_
 dsimp only[Tryz.f41]
 by_cases hin:zeg c l<l.length
 · obtain⟨x,hx⟩:∃ x,l[zeg c l]? =some x:=⟨_,List.getElem?_eq_getElem hin⟩
   rw[hx] at hb ⊢
   simp only at hb ⊢
   generalize zeg c l=i at *
   by_cases hc:c<x.1
   · rw[if_pos hc]
     repeat' (first|(apply z07;(first|refine z0o ?_| (apply z06;(refine z02 z2d rfl rfl ?_))|(apply z0d;(refine z02 (z7m rfl rfl) rfl rfl ?_))|(apply z0g;(refine z02 (z1x (ys:=l.map z2r) rfl (idx hx)) rfl rfl ?_))|(apply z10;(refine z02 (z1f rfl) rfl rfl ?_))|(apply z0t;(refine za9 (first:=[]) (cap:=[]) (ps:=[.d (za6 l),I .i32 c,.fn (.func 75) [] []]) hb rfl rfl (by decide) ?_))))|(apply z09;(first|refine z0n ?_|apply z0a|refine z29 ?_| refine z2z (fun _=>?_) (fun _=>?_)))|(apply z08;(first|apply z0b|apply z00|refine z1i ?_| apply z04|refine z0h (fun _=>?_) (fun _=>?_))))
     all_goals try (exfalso;omega)
     all_goals exact z0k Tryz.func41 _ z19 ⟨rfl,rfl⟩
   · rw[if_neg hc]
     repeat' (first|(apply z07;(first|refine z0o ?_| (apply z06;(refine z02 z2d rfl rfl ?_))|(apply z0d;(refine z02 (z7m rfl rfl) rfl rfl ?_))|(apply z0g;(refine z02 (z1x (ys:=l.map z2r) rfl (idx hx)) rfl rfl ?_))|(apply z10;(refine z02 (z1f rfl) rfl rfl ?_))|(apply z0t;(refine za9 (first:=[]) (cap:=[]) (ps:=[.d (za6 l),I .i32 c,.fn (.func 75) [] []]) hb rfl rfl (by decide) ?_))))|(apply z09;(first|refine z0n ?_|apply z0a|refine z29 ?_| refine z2z (fun _=>?_) (fun _=>?_)))|(apply z08;(first|apply z0b|apply z00|refine z1i ?_| apply z04|refine z0h (fun _=>?_) (fun _=>?_))))
     all_goals try (exfalso;omega)
     all_goals exact z0k Tryz.func41 _ z19 ⟨rfl,rfl⟩
 · rw[List.getElem?_eq_none (by omega)] at hb ⊢
   simp only at hb ⊢
   have:zeg c l=l.length:=by omega
   rw[this] at hb
   repeat' (first|(apply z07;(first|refine z0o ?_| (apply z10;(refine z02 (z1f rfl) rfl rfl ?_))|(apply z0t;(refine za9 (first:=[]) (cap:=[]) (ps:=[.d (za6 l),I .i32 c,.fn (.func 75) [] []]) hb rfl rfl (by decide) ?_))))|(apply z09;(first|refine z0n ?_|apply z0a|refine z29 ?_| refine z2z (fun _=>?_) (fun _=>?_)))|(apply z08;(first|apply z0b|apply z00|refine z1i ?_)))
   all_goals try (exfalso;omega)
   all_goals exact z0k Tryz.func41 _ z19 ⟨rfl,rfl⟩
end Go.Proofs.YthdfkabdoidjfaaGreatDoor
namespace Go.Proofs.YthdfkabdoidjfaaGreatDoor
open Go.Ab Go.Ax
set_option maxHeartbeats 20000000
set_option maxRecDepth 100000
attribute [local irreducible] Run Ops Op1 z1t Val Tr z11 z1s NF Rel z43 z42
def zo9 (op:Int) (p q:Bool):Bool:=if op=1 then p&&q else if op=2 then p||q else if op=3 then p&&!q else p != q
theorem zni (op:Int) (p q:Bool):z11 Tryz.prog 95 [I .i64 op,B p,B q] (B (zo9 op p q)):=by
 refine z1j fun H=>?_
 refine z0j Tryz.func95 (by kernel_rfl) rfl (by simp) ?_
 dsimp only[Tryz.f95]
 rw[zo9]
 by_cases h1:op=1
 · rw[if_pos h1]
   cases p <;> cases q
   all_goals repeat' (first|(apply z07;(first|refine z0o ?_| (apply z0y;(refine z02 (zfh rfl) rfl rfl ?_))))|(apply z09;(first|refine z0n ?_|apply z0a|refine z29 ?_))|(apply z08;(first|apply z0b|apply z00|apply z04|apply z01|apply z03|refine z0h (fun _=>?_) (fun _=>?_))))
   all_goals try (exfalso;omega)
   all_goals exact z0k Tryz.func95 _ z19 ⟨rfl,rfl⟩
 rw[if_neg h1]
 by_cases h2:op=2
 · rw[if_pos h2]
   cases p <;> cases q
   all_goals repeat' (first|(apply z07;(first|refine z0o ?_| (apply z0y;(refine z02 (zfh rfl) rfl rfl ?_))))|(apply z09;(first|refine z0n ?_|apply z0a|refine z29 ?_))|(apply z08;(first|apply z0b|apply z00|apply z04|apply z01|apply z03|refine z0h (fun _=>?_) (fun _=>?_))))
   all_goals try (exfalso;omega)
   all_goals exact z0k Tryz.func95 _ z19 ⟨rfl,rfl⟩
 rw[if_neg h2]
 by_cases h3:op=3
 · rw[if_pos h3]
   cases p <;> cases q
   all_goals repeat' (first|(apply z07;(first|refine z0o ?_| (apply z0y;(refine z02 (zfh rfl) rfl rfl ?_))))|(apply z09;(first|refine z0n ?_|apply z0a|refine z29 ?_))|(apply z08;(first|apply z0b|apply z00|apply z04|apply z01|apply z03|refine z0h (fun _=>?_) (fun _=>?_))))
   all_goals try (exfalso;omega)
   all_goals exact z0k Tryz.func95 _ z19 ⟨rfl,rfl⟩
 rw[if_neg h3]
 cases p <;> cases q
 all_goals repeat' (first|(apply z07;(first|refine z0o ?_| (apply z0y;(refine z02 (zfh rfl) rfl rfl ?_))))|(apply z09;(first|refine z0n ?_|apply z0a|refine z29 ?_))|(apply z08;(first|apply z0b|apply z00|apply z04|apply z01|apply z03|refine z0h (fun _=>?_) (fun _=>?_))))
 all_goals try (exfalso;omega)
 all_goals exact z0k Tryz.func95 _ z19 ⟨rfl,rfl⟩
def zl7 (op:Int) (p q:Int):Bool:=if op=1 then decide (p<0)||decide (q<0) else if op=3 then decide (p<0) else decide (p<0)&&decide (q<0)
theorem zo4 (op p q:Int):z11 Tryz.prog 100 [I .i64 op,.d (.agg [z2o p,z2o q])] (B (zl7 op p q)):=by
 refine z1j fun H=>?_
 refine z0j Tryz.func100 (by kernel_rfl) rfl (by simp) ?_
 dsimp only[Tryz.f100]
 rw[zl7]
 by_cases h1:op=1
 · rw[if_pos h1]
   by_cases p0:p<0
   · rw[decide_eq_true p0,Bool.true_or]
     repeat' (first|(apply z07;(first|refine z0o ?_| (apply z06;(refine z02 z1c rfl rfl ?_))|(apply z0d;(refine z02 z0i rfl rfl ?_))|(apply z1p;(refine z05 z22 ?_))))|(apply z09;(first|refine z0n ?_|apply z0a|refine z29 ?_| refine z2z (fun _=>?_) (fun _=>?_)))|(apply z08;(first|apply z0b|apply z00|apply z04|apply z01|apply z03|refine z0h (fun _=>?_) (fun _=>?_))))
     all_goals try (exfalso;omega)
     all_goals exact z0k Tryz.func100 _ z19 ⟨rfl,rfl⟩
   · rw[decide_eq_false p0,Bool.false_or]
     repeat' (first|(apply z07;(first|refine z0o ?_| (apply z06;(refine z02 z1c rfl rfl ?_))|(apply z0d;(refine z02 z0i rfl rfl ?_))|(apply z1p;(refine z05 z22 ?_))))|(apply z09;(first|refine z0n ?_|apply z0a|refine z29 ?_| refine z2z (fun _=>?_) (fun _=>?_)))|(apply z08;(first|apply z0b|apply z00|apply z04|apply z01|apply z03|refine z0h (fun _=>?_) (fun _=>?_))))
     all_goals try (exfalso;omega)
     all_goals exact z0k Tryz.func100 _ z19 ⟨rfl,rfl⟩
 rw[if_neg h1]
 by_cases h3:op=3
 · rw[if_pos h3]
   repeat' (first|(apply z07;(first|refine z0o ?_| (apply z06;(refine z02 z1c rfl rfl ?_))|(apply z0d;(refine z02 z0i rfl rfl ?_))|(apply z1p;(refine z05 z22 ?_))))|(apply z09;(first|refine z0n ?_|apply z0a|refine z29 ?_| refine z2z (fun _=>?_) (fun _=>?_)))|(apply z08;(first|apply z0b|apply z00|apply z04|apply z01|apply z03|refine z0h (fun _=>?_) (fun _=>?_))))
   all_goals try (exfalso;omega)
   all_goals exact z0k Tryz.func100 _ z19 ⟨rfl,rfl⟩
 rw[if_neg h3]
 by_cases p0:p<0
 · rw[decide_eq_true p0,Bool.true_and]
   repeat' (first|(apply z07;(first|refine z0o ?_| (apply z06;(refine z02 z1c rfl rfl ?_))|(apply z0d;(refine z02 z0i rfl rfl ?_))|(apply z1p;(refine z05 z22 ?_))))|(apply z09;(first|refine z0n ?_|apply z0a|refine z29 ?_| refine z2z (fun _=>?_) (fun _=>?_)))|(apply z08;(first|apply z0b|apply z00|apply z04|apply z01|apply z03|refine z0h (fun _=>?_) (fun _=>?_))))
   all_goals try (exfalso;omega)
   all_goals exact z0k Tryz.func100 _ z19 ⟨rfl,rfl⟩
 · rw[decide_eq_false p0,Bool.false_and]
   repeat' (first|(apply z07;(first|refine z0o ?_| (apply z06;(refine z02 z1c rfl rfl ?_))|(apply z0d;(refine z02 z0i rfl rfl ?_))|(apply z1p;(refine z05 z22 ?_))))|(apply z09;(first|refine z0n ?_|apply z0a|refine z29 ?_| refine z2z (fun _=>?_) (fun _=>?_)))|(apply z08;(first|apply z0b|apply z00|apply z04|apply z01|apply z03|refine z0h (fun _=>?_) (fun _=>?_))))
   all_goals try (exfalso;omega)
   all_goals exact z0k Tryz.func100 _ z19 ⟨rfl,rfl⟩
theorem zet (a:Au) (q:Int) (hq:q<a.F.length):z11 Tryz.prog 96 [.d (auD a),I .i64 q] (B (a.fin q)):=by
 obtain⟨F,A⟩:=a
 refine z1j fun H=>?_
 refine z0j Tryz.func96 (by kernel_rfl) rfl (by simp) ?_
 dsimp only[Tryz.f96]
 rw[Au.fin]
 by_cases hn:q<0
 · rw[if_pos hn]
   repeat' (first|(apply z07;(first|refine z0o ?_| (apply z06;(refine z02 z1c rfl rfl ?_))|(apply z0d;(refine z02 z0i rfl rfl ?_))|(apply z1p;(refine z05 z22 ?_))))|(apply z09;(first|refine z0n ?_|apply z0a|refine z29 ?_| refine z2z (fun _=>?_) (fun _=>?_)))|(apply z08;(first|apply z0b|apply z00)))
   all_goals try (exfalso;omega)
   all_goals exact z0k Tryz.func96 _ z19 ⟨rfl,rfl⟩
 · rw[if_neg hn]
   obtain⟨k,rfl⟩:∃ k:Nat,q=k:=⟨q.toNat,by omega⟩
   simp only at hq
   obtain⟨b,hb⟩:∃ b,F[k]? =some b:=⟨_,List.getElem?_eq_getElem (by omega)⟩
   simp only[Int.toNat_natCast,List.getD,hb,Option.getD_some]
   repeat' (first|(apply z07;(first|refine z0o ?_| (apply z06;(first|refine z02 z1c rfl rfl ?_| refine z02 z2d rfl rfl ?_))|(apply z0d;(refine z02 z0i rfl rfl ?_))|(apply z0g;(refine z02 (z1x (ys:=F.map fun b=>[zaj b]) rfl (idx (g:=fun b=>[zaj b]) hb)) rfl rfl ?_))|(apply z1p;(refine z05 z22 ?_))))|(apply z09;(first|refine z0n ?_|apply z0a))|(apply z08;(first|apply z0b|apply z00)))
   all_goals try (exfalso;omega)
   all_goals exact z0k Tryz.func96 _ z19 ⟨rfl,rfl⟩
theorem zj1 (a:Au) (q:Int) (hq:q<a.A.length):z11 Tryz.prog 98 [.d (auD a),I .i64 q] (.d (za6 (a.arcs q))):=by
 obtain⟨F,A⟩:=a
 refine z1j fun H=>?_
 refine z0j Tryz.func98 (by kernel_rfl) rfl (by simp) ?_
 dsimp only[Tryz.f98]
 rw[Au.arcs]
 by_cases hn:q<0
 · rw[if_pos hn]
   repeat' (first|(apply z07;(first|refine z0o ?_| (apply z06;(refine z02 z1c rfl rfl ?_))|(apply z0d;(refine z02 z0i rfl rfl ?_))|(apply z1p;(refine z05 z22 ?_))))|(apply z09;(first|refine z0n ?_|apply z0a))|(apply z08;(first|apply z0b|apply z00|apply z04|refine z0h (fun _=>?_) (fun _=>?_))))
   all_goals try (exfalso;omega)
   refine zws 4 rfl ?_
   all_goals exact z0k Tryz.func98 _ z19 ⟨rfl,rfl⟩
 · rw[if_neg hn]
   obtain⟨k,rfl⟩:∃ k:Nat,q=k:=⟨q.toNat,by omega⟩
   simp only at hq
   obtain⟨l,hb⟩:∃ l,A[k]? =some l:=⟨_,List.getElem?_eq_getElem (by omega)⟩
   simp only[Int.toNat_natCast,List.getD,hb,Option.getD_some]
   repeat' (first|(apply z07;(first|refine z0o ?_| (apply z06;(first|refine z02 z1c rfl rfl ?_| refine z02 z2d rfl rfl ?_))|(apply z0d;(refine z02 z0i rfl rfl ?_))|(apply z0g;(refine z02 (z1x (ys:=A.map z4v) rfl (idx hb)) rfl rfl ?_))|(apply z1p;(refine z05 z22 ?_))))|(apply z09;(first|refine z0n ?_|apply z0a))|(apply z08;(first|apply z0b|apply z00|refine z14 ?_| apply z04)))
   all_goals try (exfalso;omega)
   all_goals exact z0k Tryz.func98 _ z19 ⟨rfl,rfl⟩
end Go.Proofs.YthdfkabdoidjfaaGreatDoor
namespace Go.Proofs.YthdfkabdoidjfaaGreatDoor
open Go.Ab Go.Ax
set_option maxHeartbeats 20000000
set_option maxRecDepth 100000
attribute [local irreducible] Run Ops Op1 z1t Val Tr z11 z1s NF Rel z43 z42
theorem zuz (l:List Arc) (hl:l.length≤2000000):z11 Tryz.prog 85 [.d (za6 l)] (.d (za6 l)):=by
 refine z1j fun H=>?_
 refine z0j Tryz.func85 (by kernel_rfl) rfl (by simp) ?_
 dsimp only[Tryz.f85]
 repeat' (first|(apply z07;(first|refine z0o ?_| (apply z10;(refine z02 (z1f rfl) rfl rfl ?_))))|(apply z09;(first|refine z0n ?_|apply z0a))|(apply z08;(first|apply z0b|apply z00|apply z01)))
 all_goals try (exfalso;omega)
 refine z2f 3 1000 169 3 rfl rfl rfl ?_
 refine z1g ?_
 refine z0f (z2i (fun q:Nat=>⟨24,[(3,.ref (0,1000)),(6,.d (za6 l)),(7,I .i64 l.length),(8,I .i64 (q:Nat))],[(1000,.row 169 3 ((l.take q).map z2r))],H⟩) (fun q=>q≤l.length) (fun q=>l.length-q) ?_ 0 (Nat.zero_le _)) rfl rfl
 rintro i i1 ih
 by_cases hlt:i<l.length
 · obtain⟨x,hx⟩:∃ x,l[i]? =some x:=⟨_,List.getElem?_eq_getElem hlt⟩
   have ih':=ih (i+1) (by omega) (by omega)
   rw[z7r hx] at ih'
   have htl:(l.take i).length≤2000000:=by rw[List.length_take];omega
   generalize l.take i=Q at *
   repeat' (first|(apply z07;(first|refine z0o ?_| (apply z06;(first|refine z02 z1c rfl rfl ?_| refine z02 z1u rfl rfl ?_))|(apply z0d;(refine z02 z0i rfl rfl ?_))|(apply z0g;(refine z02 (z1x (ys:=l.map z2r) rfl (idx hx)) rfl rfl ?_))|(apply z0y;(refine z02 (z0v z1e) rfl rfl ?_))|(apply z10;(refine z30 (g:=z2r) x rfl ?_))|(apply z0c;(refine z1r ?_))|(apply z0e;(refine z05 z2e ?_))|(apply z0z;(refine z3p ?_))|(apply z1v;(refine z2b rfl ?_))))|(apply z09;(first|refine z0n ?_|apply z0a))|(apply z08;(first|apply z0b|apply z00|apply z04|apply z01|apply z03|refine z0h (fun _=>?_) (fun _=>?_)| refine z0m ?_)))
   all_goals try (exfalso;omega)
   all_goals refine z1w 21 1000 ?_
   all_goals exact z0f ih' rfl rfl
 · obtain rfl:i=l.length:=by omega
   rw[List.take_length] at *
   repeat' (first|(apply z07;(refine z0o ?_))|(apply z09;(first|refine z0n ?_|apply z0a))|(apply z08;(first|apply z0b|apply z00|apply z04|apply z01|refine z0h (fun _=>?_) (fun _=>?_)| refine z0m ?_)))
   all_goals try (exfalso;omega)
   all_goals refine z1m 1000 rfl ?_
   all_goals exact z0k Tryz.func85 _ z19 ⟨rfl,rfl⟩
def z62 (l:List Arc):List Rx.Rg:=l.map fun x=>(x.1,x.2.1)
theorem zck (l:List Arc) (hl:l.length≤2000000):z11 Tryz.prog 99 [.d (za6 l)] (.d (rgs (z62 l))):=by
 refine z1j fun H=>?_
 refine z0j Tryz.func99 (by kernel_rfl) rfl (by simp) ?_
 dsimp only[Tryz.f99]
 repeat' (first|(apply z07;(first|refine z0o ?_| (apply z10;(refine z02 (z1f rfl) rfl rfl ?_))))|(apply z09;(first|refine z0n ?_|apply z0a))|(apply z08;(first|apply z0b|apply z00|apply z01)))
 all_goals try (exfalso;omega)
 refine z2f 3 1000 155 2 rfl rfl rfl ?_
 refine z1g ?_
 refine z0f (z2i (fun q:Nat=>⟨22,[(3,.ref (0,1000)),(6,.d (za6 l)),(7,I .i64 l.length),(8,I .i64 (q:Nat))],[(1000,.row 155 2 (((z62 l).take q).map rgc))],H⟩) (fun q=>q≤l.length) (fun q=>l.length-q) ?_ 0 (Nat.zero_le _)) rfl rfl
 rintro i i1 ih
 by_cases hlt:i<l.length
 · obtain⟨x,hx⟩:∃ x,l[i]? =some x:=⟨_,List.getElem?_eq_getElem hlt⟩
   have hr:(z62 l)[i]? =some (x.1,x.2.1):=by rw[z62,List.getElem?_map,hx];rfl
   have ih':=ih (i+1) (by omega) (by omega)
   rw[z7r hr] at ih'
   have htl:((z62 l).take i).length≤2000000:=by rw[List.length_take];omega
   generalize (z62 l).take i=Q at *
   repeat' (first|(apply z07;(first|refine z0o ?_| (apply z06;(first|refine z02 z1c rfl rfl ?_| refine z02 z1u rfl rfl ?_))|(apply z0d;(refine z02 z0i rfl rfl ?_))|(apply z0g;(refine z02 (z1x (ys:=l.map z2r) rfl (idx hx)) rfl rfl ?_))|(apply z0y;(refine z02 (z0v z1e) rfl rfl ?_))|(apply z10;(refine z30 (g:=rgc) (x.1,x.2.1) rfl ?_))|(apply z0c;(refine z1r ?_))|(apply z0e;(refine z05 z2e ?_))|(apply z0z;(refine z3p ?_))|(apply z1v;(refine z2b rfl ?_))))|(apply z09;(first|refine z0n ?_|apply z0a))|(apply z08;(first|apply z0b|apply z00|apply z04|apply z01|apply z03|refine z0h (fun _=>?_) (fun _=>?_)| refine z0m ?_)))
   all_goals try (exfalso;omega)
   all_goals refine z1w 19 1000 ?_
   all_goals exact z0f ih' rfl rfl
 · obtain rfl:i=l.length:=by omega
   rw[show l.length=(z62 l).length by rw[z62,List.length_map],List.take_length] at *
   repeat' (first|(apply z07;(refine z0o ?_))|(apply z09;(first|refine z0n ?_|apply z0a))|(apply z08;(first|apply z0b|apply z00|apply z04|apply z01|refine z0h (fun _=>?_) (fun _=>?_)| refine z0m ?_)))
   all_goals try (exfalso;omega)
   all_goals refine z1m 1000 rfl ?_
   all_goals exact z0k Tryz.func99 _ z19 ⟨rfl,rfl⟩
end Go.Proofs.YthdfkabdoidjfaaGreatDoor
namespace Go.Proofs.YthdfkabdoidjfaaGreatDoor
open Go.Ab Go.Ax
set_option maxHeartbeats 20000000
set_option maxRecDepth 100000
attribute [local irreducible] Run Ops Op1 z1t Val Tr z11 z1s NF Rel z43 z42
abbrev ints (l:List Int):D:=.slice (l.map fun x=>[z2o x])
theorem zg7 (l:List Arc) (cl:List Int) (hl:l.length≤2000000) (hr:∀ x∈l,0≤x.1∧x.1≤x.2.1∧x.2.1≤1114111∧0≤x.2.2∧x.2.2<cl.length):z11 Tryz.prog 81 [.d (za6 l),.d (ints cl)] (.d (za6 (byC cl l))):=by
 refine z1j fun H=>?_
 refine z0j Tryz.func81 (by kernel_rfl) rfl (by simp) ?_
 dsimp only[Tryz.f81]
 repeat' (first|(apply z07;(first|refine z0o ?_| (apply z10;(refine z02 (z1f rfl) rfl rfl ?_))))|(apply z09;(first|refine z0n ?_|apply z0a))|(apply z08;(first|apply z0b|apply z00|apply z01)))
 all_goals try (exfalso;omega)
 refine z2f 5 1000 169 3 rfl rfl rfl ?_
 refine z1g ?_
 refine z0f (z2i (fun q:Nat × List Arc=>⟨67,[(1,.d (ints cl)),(5,.ref (0,1000)),(10,.d (za6 l)),(11,I .i64 l.length),(12,I .i64 (q.1:Nat))],[(1000,.row 169 3 (q.2.map z2r))],H⟩) (fun q=>q.1≤l.length∧q.2.length≤q.1∧(∀ y∈q.2,0≤y.2.1∧y.2.1≤1114111)∧(l.drop q.1).foldl (z9q cl) q.2=byC cl l) (fun q=>l.length-q.1) ?_ (0,[]) ⟨Nat.zero_le _,Nat.le_refl _,by simp,rfl⟩) rfl rfl
 rintro⟨i,out⟩ ⟨i1,i2,i3,i4⟩ ih
 simp only at i1 i2 i3 i4 ih ⊢
 by_cases hlt:i<l.length
 · obtain⟨x,hx⟩:∃ x,l[i]? =some x:=⟨_,List.getElem?_eq_getElem hlt⟩
   obtain⟨r1,r2,r3,r4,r5⟩:=hr x (List.mem_of_getElem? hx)
   obtain⟨k,hk⟩:∃ k,cl[x.2.2.toNat]? =some k:=⟨_,List.getElem?_eq_getElem (by omega)⟩
   have hck:clA cl x.2.2=k:=by rw[clA,if_neg (by omega),List.getD,hk];rfl
   rw[drop_cons hx,List.foldl_cons,z9q,hck] at i4
   by_cases hneg:k<0
   · rw[if_pos hneg] at i4
     have ih':=ih (i+1,out) ⟨by simp only;omega,by simp only;omega,i3,i4⟩ (by simp only;omega)
     repeat' (first|(apply z07;(first|refine z0o ?_| (apply z06;(first|refine z02 z1c rfl rfl ?_| refine z02 z2d rfl rfl ?_| refine z02 z1u rfl rfl ?_))|(apply z0d;(refine z02 z0i rfl rfl ?_))|(apply z0g;(first|refine z02 (z1x (ys:=l.map z2r) rfl (idx hx)) rfl rfl ?_| refine z02 (z1x (ys:=cl.map fun x=>[z2o x]) rfl (zf2 (g:=fun x=>[z2o x]) hk)) rfl rfl ?_))|(apply z0y;(refine z02 (z0v z1e) rfl rfl ?_))|(apply z10;(refine z02 (z1d rfl) rfl rfl ?_))|(apply z0c;(refine z1r ?_))|(apply z0e;(refine z05 z2e ?_))|(apply z0z;(refine z3p ?_))|(apply z1v;(refine z2b rfl ?_))))|(apply z09;(first|refine z0n ?_|apply z0a))|(apply z08;(first|apply z0b|apply z00|refine z14 ?_| apply z04|apply z01|apply z38|refine z0h (fun _=>?_) (fun _=>?_)| refine z0m ?_))|(apply z34;(first|(apply z1a;refine z1q mix ?_)|refine z36 ?_| refine z3a ?_| (apply z1z;(refine z0l (z1y z1e) rfl rfl ?_))|(refine z1o rfl rfl (fun hg=>?_) (fun hg=>?_) <;> simp only[hg] <;> (try simp only[decide_eq_true_eq,decide_eq_false_iff_not,Bool.not_eq_true',Bool.not_eq_false'] at hg)))))
     all_goals try (exfalso;omega)
     all_goals exact z0f ih' rfl rfl
   · rw[if_neg hneg] at i4
     have hln:=z9s out x.1 x.2.1 k
     have ih':=ih (i+1,ext out x.1 x.2.1 k) ⟨by simp only;omega,by simp only;omega,fun y hy=>by
      rcases ext_mem hy with h|h
      · omega
      · exact i3 y h,i4⟩ (by simp only;omega)
     clear ih hln
     rcases zgh out with rfl|⟨m,y,rfl⟩
     · rw[ext_nil] at ih'
       simp only at ih'
       repeat' (first|(apply z07;(first|refine z0o ?_| (apply z06;(first|refine z02 z1c rfl rfl ?_| refine z02 z2d rfl rfl ?_| refine z02 z1u rfl rfl ?_))|(apply z0d;(refine z02 z0i rfl rfl ?_))|(apply z0g;(first|refine z02 (z1x (ys:=l.map z2r) rfl (idx hx)) rfl rfl ?_| refine z02 (z1x (ys:=cl.map fun x=>[z2o x]) rfl (zf2 (g:=fun x=>[z2o x]) hk)) rfl rfl ?_))|(apply z0y;(refine z02 (z0v z1e) rfl rfl ?_))|(apply z10;(first|refine z02 (za3 rfl) rfl rfl ?_| refine z4w (g:=z2r) rfl rfl (x.1,x.2.1,k) rfl rfl rfl rfl rfl rfl rfl (by decide) (by simp) ?_))|(apply z0c;(refine z1r ?_))|(apply z0e;(refine z05 z2e ?_))|(apply z0z;(refine z3p ?_))|(apply z1v;(refine z2b rfl ?_))))|(apply z09;(first|refine z0n ?_|apply z0a))|(apply z08;(first|apply z0b|apply z00|refine z14 ?_| apply z04|apply z01|apply z38|apply z03|refine z0h (fun _=>?_) (fun _=>?_)| refine z0m ?_))|(apply z34;(first|(apply z1a;refine z1q mix ?_)|refine z36 ?_| refine z3a ?_)))
       all_goals try (exfalso;first|omega|(simp at *;done))
       all_goals refine z1w 64 1000 ?_
       all_goals exact z0f ih' rfl rfl
     · have hy:=i3 y (by simp)
       have hln:((m++[y]).map z2r).length=m.length+1:=by simp
       have hln2:(m++[y]).length=m.length+1:=by simp
       have hix:(m++[y])[((((((m++[y]).map z2r).length:Nat):Int)-1)).toNat]? =some y:=by
        rw[hln,show (((m.length+1:Nat):Int)-1).toNat=m.length by omega];simp
       have hse:(m++[y]).set ((((((m++[y]).map z2r).length:Nat):Int)-1)).toNat ((y.1,x.2.1,y.2.2):Arc)=m++[(y.1,x.2.1,y.2.2)]:=by
        rw[hln,show (((m.length+1:Nat):Int)-1).toNat=m.length by omega];simp
       rw[z3u] at ih'
       by_cases hj:y.2.1+1=x.1∧y.2.2=k
       · rw[if_pos hj,← hj.2] at ih'
         simp only at ih'
         repeat' (first|(apply z07;(first|refine z0o ?_| (apply z06;(first|refine z02 z1c rfl rfl ?_| refine z02 z2d rfl rfl ?_| refine z02 z1u rfl rfl ?_))|(apply z0d;(first|refine z02 z0i rfl rfl ?_| refine z02 z3n rfl rfl ?_))|(apply z0g;(first|refine z02 (z1x (ys:=l.map z2r) rfl (idx hx)) rfl rfl ?_| refine z02 (z1x (ys:=cl.map fun x=>[z2o x]) rfl (zf2 (g:=fun x=>[z2o x]) hk)) rfl rfl ?_| refine z02 (z3b rfl) rfl rfl ?_))|(apply z0y;(first|refine z02 (z0v z1e) rfl rfl ?_| refine z02 (z1y z1e) rfl rfl ?_))|(apply z10;(first|refine z02 (za3 rfl) rfl rfl ?_| refine z30 (g:=z2r) (x.1,x.2.1,k) rfl ?_))|(apply z0c;(first|refine z4g ((y.1,x.2.1,y.2.2):Arc) hix hse ?_| refine z1r ?_))|(apply z0e;(refine z05 z2e ?_))|(apply z0z;(refine z3p ?_))|(apply z1v;(refine z2b rfl ?_))))|(apply z09;(first|refine z0n ?_|apply z0a))|(apply z08;(first|apply z0b|apply z00|refine z14 ?_| apply z04|apply z01|apply z38|apply z03|refine z0h (fun _=>?_) (fun _=>?_)| refine z0m ?_))|(apply z34;(first|(apply z1a;refine z1q mix ?_)|refine z36 ?_| refine z3a ?_| (apply z0s;(first|refine z0l (z2c (u:=z5p y.2.1) hix) rfl rfl ?_| refine z0l (z2c (u:=z2o y.2.2) hix) rfl rfl ?_| refine z0l z1c rfl rfl ?_))|(apply z0p;(first|refine z0l z0i rfl rfl ?_| refine z0l z3n rfl rfl ?_))|(apply z15;(refine z0l (z3b rfl) rfl rfl ?_))|(apply z1z;(first|refine z0l (z0v (zal (by omega) (by omega))) rfl rfl ?_| refine z0l (z1y z1e) rfl rfl ?_))|(refine z1o rfl rfl (fun hg=>?_) (fun hg=>?_) <;> simp only[hg] <;> (try simp only[decide_eq_true_eq,decide_eq_false_iff_not,Bool.not_eq_true',Bool.not_eq_false'] at hg)))))
         all_goals try (exfalso;omega)
         all_goals exact z0f ih' rfl rfl
       · rw[if_neg hj] at ih'
         simp only at ih'
         repeat' (first|(apply z07;(first|refine z0o ?_| (apply z06;(first|refine z02 z1c rfl rfl ?_| refine z02 z2d rfl rfl ?_| refine z02 z1u rfl rfl ?_))|(apply z0d;(first|refine z02 z0i rfl rfl ?_| refine z02 z3n rfl rfl ?_))|(apply z0g;(first|refine z02 (z1x (ys:=l.map z2r) rfl (idx hx)) rfl rfl ?_| refine z02 (z1x (ys:=cl.map fun x=>[z2o x]) rfl (zf2 (g:=fun x=>[z2o x]) hk)) rfl rfl ?_| refine z02 (z3b rfl) rfl rfl ?_))|(apply z0y;(first|refine z02 (z0v z1e) rfl rfl ?_| refine z02 (z1y z1e) rfl rfl ?_))|(apply z10;(first|refine z02 (za3 rfl) rfl rfl ?_| refine z30 (g:=z2r) (x.1,x.2.1,k) rfl ?_))|(apply z0c;(first|refine z4g ((y.1,x.2.1,y.2.2):Arc) hix hse ?_| refine z1r ?_))|(apply z0e;(refine z05 z2e ?_))|(apply z0z;(refine z3p ?_))|(apply z1v;(refine z2b rfl ?_))))|(apply z09;(first|refine z0n ?_|apply z0a))|(apply z08;(first|apply z0b|apply z00|refine z14 ?_| apply z04|apply z01|apply z38|apply z03|refine z0h (fun _=>?_) (fun _=>?_)| refine z0m ?_))|(apply z34;(first|(apply z1a;refine z1q mix ?_)|refine z36 ?_| refine z3a ?_| (apply z0s;(first|refine z0l (z2c (u:=z5p y.2.1) hix) rfl rfl ?_| refine z0l (z2c (u:=z2o y.2.2) hix) rfl rfl ?_| refine z0l z1c rfl rfl ?_))|(apply z0p;(first|refine z0l z0i rfl rfl ?_| refine z0l z3n rfl rfl ?_))|(apply z15;(refine z0l (z3b rfl) rfl rfl ?_))|(apply z1z;(first|refine z0l (z0v (zal (by omega) (by omega))) rfl rfl ?_| refine z0l (z1y z1e) rfl rfl ?_))|(refine z1o rfl rfl (fun hg=>?_) (fun hg=>?_) <;> simp only[hg] <;> (try simp only[decide_eq_true_eq,decide_eq_false_iff_not,Bool.not_eq_true',Bool.not_eq_false'] at hg)))))
         all_goals try (exfalso;omega)
         all_goals refine z1w 64 1000 ?_
         all_goals exact z0f ih' rfl rfl
 · obtain rfl:i=l.length:=by omega
   rw[List.drop_length,List.foldl_nil] at i4
   rw[← i4]
   repeat' (first|(apply z07;(refine z0o ?_))|(apply z09;(first|refine z0n ?_|apply z0a))|(apply z08;(first|apply z0b|apply z00|apply z04|apply z01|refine z0h (fun _=>?_) (fun _=>?_)| refine z0m ?_)))
   all_goals try (exfalso;omega)
   all_goals refine z1m 1000 rfl ?_
   all_goals exact z0k Tryz.func81 _ z19 ⟨rfl,rfl⟩
end Go.Proofs.YthdfkabdoidjfaaGreatDoor
namespace Go.Proofs.YthdfkabdoidjfaaGreatDoor
open Go.Ab Go.Ax Go.Rx
set_option maxHeartbeats 20000000
set_option maxRecDepth 100000
attribute [local irreducible] Run Ops Op1 z1t Val Tr z11 z1s NF Rel z43 z42
theorem zh3 (l:List Rg) (hl:l.length≤9223372036854775807) (c:Int):z11 Tryz.prog 62 [.d (rgs l),I .i32 c] (B (inB l c)):=by
 refine z1j fun H=>?_
 refine z0j Tryz.func62 (by kernel_rfl) rfl (by simp) ?_
 dsimp only[Tryz.f62]
 repeat' (first|(apply z07;(first|refine z0o ?_| (apply z10;(refine z02 (z1f rfl) rfl rfl ?_))))|(apply z09;(first|refine z0n ?_|apply z0a))|(apply z08;(first|apply z0b|apply z00|apply z01)))
 all_goals try (exfalso;omega)
 refine z1g ?_
 refine z0f (z2i (fun q:Nat=>⟨24,[(1,I .i32 c),(7,.d (rgs l)),(8,I .i64 l.length),(9,I .i64 (q:Nat))],[],H⟩) (fun q=>q≤l.length∧inB (l.drop q) c=inB l c) (fun q=>l.length-q) ?_ 0 ⟨Nat.zero_le _,rfl⟩) rfl rfl
 intro q ⟨i1,i2⟩ ih
 by_cases hlt:q<l.length
 · obtain⟨r,hr⟩:∃ r,l[q]? =some r:=⟨_,List.getElem?_eq_getElem hlt⟩
   rw[drop_cons hr,inB,List.any_cons,← inB] at i2
   by_cases hc:r.1≤c∧c≤r.2
   · rw[decide_eq_true hc.1,decide_eq_true hc.2,Bool.true_and,Bool.true_or] at i2
     rw[← i2]
     repeat' (first|(apply z07;(first|refine z0o ?_| (apply z06;(first|refine z02 z1c rfl rfl ?_| refine z02 z1u rfl rfl ?_))|(apply z0d;(refine z02 z0i rfl rfl ?_))|(apply z0g;(refine z02 (z1x (ys:=l.map rgc) rfl (idx hr)) rfl rfl ?_))|(apply z0y;(refine z02 (z0v z1e) rfl rfl ?_))|(apply z0c;(refine z1r ?_))|(apply z0e;(refine z05 z2e ?_))))|(apply z09;(first|refine z0n ?_|apply z0a|refine z29 ?_| refine z2z (fun _=>?_) (fun _=>?_)))|(apply z08;(first|apply z0b|apply z00|refine z14 ?_| apply z04|apply z01|apply z03|refine z0h (fun _=>?_) (fun _=>?_)| refine z0m ?_)))
     all_goals try (exfalso;omega)
     all_goals exact z0k Tryz.func62 _ z19 ⟨rfl,rfl⟩
   · have hf:(decide (r.1≤c)&&decide (c≤r.2))=false:=by
      rw[← Bool.decide_and];exact decide_eq_false hc
     rw[hf,Bool.false_or] at i2
     repeat' (first|(apply z07;(first|refine z0o ?_| (apply z06;(first|refine z02 z1c rfl rfl ?_| refine z02 z1u rfl rfl ?_))|(apply z0d;(refine z02 z0i rfl rfl ?_))|(apply z0g;(refine z02 (z1x (ys:=l.map rgc) rfl (idx hr)) rfl rfl ?_))|(apply z0y;(refine z02 (z0v z1e) rfl rfl ?_))|(apply z0c;(refine z1r ?_))|(apply z0e;(refine z05 z2e ?_))))|(apply z09;(first|refine z0n ?_|apply z0a|refine z29 ?_| refine z2z (fun _=>?_) (fun _=>?_)))|(apply z08;(first|apply z0b|apply z00|refine z14 ?_| apply z04|apply z01|apply z03|refine z0h (fun _=>?_) (fun _=>?_)| refine z0m ?_)))
     all_goals try (exfalso;omega)
     all_goals exact z0f (ih (q+1) ⟨by omega,i2⟩ (by omega)) rfl rfl
 · obtain rfl:q=l.length:=by omega
   rw[List.drop_length,inB,List.any_nil] at i2
   rw[← i2]
   repeat' (first|(apply z07;(refine z0o ?_))|(apply z09;(first|refine z0n ?_|apply z0a))|(apply z08;(first|apply z0b|apply z00|apply z04|apply z01|refine z0h (fun _=>?_) (fun _=>?_)| refine z0m ?_)))
   all_goals try (exfalso;omega)
   all_goals exact z0k Tryz.func62 _ z19 ⟨rfl,rfl⟩
end Go.Proofs.YthdfkabdoidjfaaGreatDoor
namespace Go.Proofs.YthdfkabdoidjfaaGreatDoor
open Go.Ab Go.Ax Go.Rx
set_option maxHeartbeats 20000000
set_option maxRecDepth 100000
attribute [local irreducible] Run Ops Op1 z1t Val Tr z11 z1s NF Rel z43 z42
abbrev cps (s:ByteArray) (i:Nat):List Int:=(rst s i).map (·.r)
def zqf (a:Au) (s:ByteArray):Bool:=if vAu a=0∧zzb s=true then a.acc 0 (cps s 0) else false
theorem ztt {a:Au} (hv:y01 a) (k:Nat) (hk:k<a.F.length) (c:Int):∃ l,a.A[k]? =some l∧okA none l∧a.nx (k:Nat) c=nxt l c∧-1≤nxt l c∧nxt l c<a.F.length:=by
 obtain⟨l,hl⟩:∃ l,a.A[k]? =some l:=⟨_,List.getElem?_eq_getElem (by rw[hv.len];exact hk)⟩
 have hla:=hv.arc l (List.mem_of_getElem? hl)
 refine⟨l,hl,hla.1,by rw[Au.nx,Au.arcs,if_neg (by omega),Int.toNat_natCast,List.getD,hl];rfl,zix (p:=none) hla.1 c,?_⟩
 have key:∀ m:List Arc,(∀ x∈m,x.2.2<a.F.length)→nxt m c<a.F.length:=fun m=>by
  induction m with
  | nil=>intro _;simp only[nxt];have:=hv.pos;omega
  | cons x m ih =>
   intro h
   rw[nxt]
   split
   · exact h x (by simp)
   · exact ih fun y hy=>h y (by simp[hy])
 exact key l fun x hx=>(hla.2 x hx).2.2.2.2
theorem zxu (s:ByteArray) (hs:s.size≤1000000):z11 Tryz.prog 40 [S s] (B (zzb s)):=by
 have h:=ztp s hs
 rw[zsg] at h
 exact h
theorem zpp (a:Au) (hf:zgc a) (hl:∀ l∈a.A,l.length≤4611686018427387904) (s:ByteArray) (hs:s.size≤1000000):z11 Tryz.prog 19 [.d (auD a),S s] (B (zqf a s)):=by
 have hv:=z9k a hf
 have hd:=zxu s hs
 refine z1j fun H=>?_
 rw[zqf]
 by_cases h0:vAu a=0
 · rw[h0] at hv
   by_cases h1:zzb s=true
   · have hva:=ze8 h0
     rw[if_pos ⟨h0,h1⟩]
     rw[h1] at hd
     obtain⟨F,A⟩:=a
     simp only at hl
     refine z0j Tryz.func19 (by kernel_rfl) rfl (by simp) ?_
     dsimp only[Tryz.f19]
     repeat' (first|(apply z07;(first|refine z0o ?_| (apply z06;(refine z02 z3q rfl rfl ?_))|(apply z0t;(first|refine z1h hv ?_| refine z1h hd ?_))|(apply z1p;(refine z05 z22 ?_))|refine zgu rfl rfl rfl (by decide) ?_))|(apply z09;(first|refine z0n ?_|apply z0a))|(apply z08;(first|apply z0b|apply z00|refine z14 ?_| apply z04|apply z01)))
     all_goals try (exfalso;omega)
     refine z1g ?_
     refine z0f (z2i (fun q:Nat × Nat=>⟨35,[(2,.ptr (0,2) 0),(5,I .i64 (q.2:Nat)),(17,.ptr (0,17) 0)],[(17,.siter s q.1),(2,.box [.d (zhq F),.d (.slice (A.map z4v))])],H⟩) (fun q=>q.1≤s.size∧q.2<F.length∧(⟨F,A⟩:Au).acc (q.2:Nat) (cps s q.1)=(⟨F,A⟩:Au).acc 0 (cps s 0)) (fun q=>s.size-q.1) ?_ (0,0) ⟨Nat.zero_le _,hva.pos,rfl⟩) rfl rfl
     rintro⟨q,k⟩ ⟨i1,i2,i3⟩ ih
     simp only at i1 i2 i3 ih ⊢
     by_cases hlt:q<s.size
     · have hd2:=zjg hlt
       have hw:=zk7 s q hlt
       rw[cps,hd2,List.map_cons,Au.acc_cons] at i3
       simp only at i3
       obtain⟨l,hA,hlo,hnx,n0,n1⟩:=ztt hva k i2 ((Utf8.decode s q).1:Nat)
       simp only at hA n1
       rw[hnx] at i3
       have hst:=zoa l (hl l (List.mem_of_getElem? hA)) hlo ((Utf8.decode s q).1:Nat)
       generalize nxt l ((Utf8.decode s q).1:Nat)=r at *
       by_cases hr:r<0
       · rw[Au.acc_neg _ _ hr] at i3
         rw[← i3]
         repeat' (first|(apply z07;(first|refine z0o ?_| (apply z06;(first|refine z02 z1c rfl rfl ?_| refine z02 z2d rfl rfl ?_))|(apply z0d;(refine z02 z0i rfl rfl ?_))|(apply z0g;(refine z02 (z1x (ys:=A.map z4v) rfl (idx hA)) rfl rfl ?_))|(apply z0t;(refine z1h hst ?_))|refine z4f hlt rfl rfl (by decide) ?_))|(apply z09;(first|refine z0n ?_|apply z0a))|(apply z08;(first|apply z0b|apply z00|refine z1i ?_| apply z04|apply z01|apply z03|refine z0h (fun _=>?_) (fun _=>?_))))
         all_goals try (exfalso;omega)
         all_goals exact z0k Tryz.func19 _ z19 ⟨rfl,rfl⟩
       · obtain⟨r,rfl⟩:∃ r':Nat,r=r':=⟨r.toNat,by omega⟩
         have ih':=ih (q+(Utf8.decode s q).2,r) ⟨by simp only;omega,by simp only;omega,i3⟩ (by simp only;omega)
         repeat' (first|(apply z07;(first|refine z0o ?_| (apply z06;(first|refine z02 z1c rfl rfl ?_| refine z02 z2d rfl rfl ?_))|(apply z0d;(refine z02 z0i rfl rfl ?_))|(apply z0g;(refine z02 (z1x (ys:=A.map z4v) rfl (idx hA)) rfl rfl ?_))|(apply z0t;(refine z1h hst ?_))|refine z4f hlt rfl rfl (by decide) ?_))|(apply z09;(first|refine z0n ?_|apply z0a))|(apply z08;(first|apply z0b|apply z00|refine z1i ?_| refine z14 ?_| apply z04|apply z01|apply z03)))
         all_goals try (exfalso;omega)
         all_goals exact z0f ih' rfl rfl
     · rw[cps,zeo (by omega),List.map_nil,Au.acc_nil,Au.fin,if_neg (by omega),Int.toNat_natCast] at i3
       obtain⟨b,hb⟩:∃ b,F[k]? =some b:=⟨_,List.getElem?_eq_getElem i2⟩
       simp only[List.getD,hb,Option.getD_some] at i3
       rw[← i3]
       repeat' (first|(apply z07;(first|refine z0o ?_| (apply z06;(first|refine z02 z1c rfl rfl ?_| refine z02 z2d rfl rfl ?_))|(apply z0d;(refine z02 z0i rfl rfl ?_))|(apply z0g;(refine z02 (z1x (ys:=F.map fun b=>[zaj b]) rfl (idx (g:=fun b=>[zaj b]) hb)) rfl rfl ?_))|refine z69 hlt rfl rfl (by decide) ?_))|(apply z09;(first|refine z0n ?_|apply z0a))|(apply z08;(first|apply z0b|apply z00|refine z14 ?_| refine z0m ?_)))
       all_goals try (exfalso;omega)
       all_goals exact z0k Tryz.func19 _ z19 ⟨rfl,rfl⟩
   · rw[if_neg (fun h=>h1 h.2)]
     rw[Bool.not_eq_true] at h1
     rw[h1] at hd
     refine z0j Tryz.func19 (by kernel_rfl) rfl (by simp) ?_
     dsimp only[Tryz.f19]
     repeat' (first|(apply z07;(first|refine z0o ?_| (apply z06;(refine z02 z3q rfl rfl ?_))|(apply z0t;(first|refine z1h hv ?_| refine z1h hd ?_))|(apply z1p;(refine z05 z22 ?_))))|(apply z09;(first|refine z0n ?_|apply z0a))|(apply z08;(first|apply z0b|apply z00|refine z1i ?_)))
     all_goals try (exfalso;omega)
     all_goals exact z0k Tryz.func19 _ z19 ⟨rfl,rfl⟩
 · rw[if_neg (fun h=>h0 h.1)]
   generalize vAu a=v at *
   refine z0j Tryz.func19 (by kernel_rfl) rfl (by simp) ?_
   dsimp only[Tryz.f19]
   repeat' (first|(apply z07;(first|refine z0o ?_| (apply z06;(refine z02 z3q rfl rfl ?_))|(apply z0t;(first|refine z1h hv ?_| refine z1h hd ?_))|(apply z1p;(refine z05 z22 ?_))))|(apply z09;(first|refine z0n ?_|apply z0a|refine z29 ?_| refine z86 rfl rfl (fun _=>?_) (fun _=>?_)))|(apply z08;(first|apply z0b|apply z00|refine z1i ?_| apply z04|refine zcr rfl (fun _=>?_) (fun _=>?_))))
   all_goals try (exfalso;omega)
   all_goals exact z0k Tryz.func19 _ z19 ⟨rfl,rfl⟩
end Go.Proofs.YthdfkabdoidjfaaGreatDoor
