/- A part of the proof: A1 to A4. -/
import Derived.Test.YthdfkabdoidjfaaGreatDoorVt
import Derived.Test.YthdfkabdoidjfaaGreatDoorVy
import Derived.Test.YthdfkabdoidjfaaGreatDoorVc
import Derived.Test.YthdfkabdoidjfaaGreatDoorVr
import Derived.Test.YthdfkabdoidjfaaGreatDoorVz
import Derived.Test.YthdfkabdoidjfaaGreatDoorVx
import Derived.Test.YthdfkabdoidjfaaGreatDoorVv
set_option linter.all false
namespace Go.Proofs.YthdfkabdoidjfaaGreatDoor
open Go.Ab Go.Ax
set_option maxHeartbeats 20000000
set_option maxRecDepth 100000
attribute [local irreducible] Run Ops Op1 z2a Val Tr z0y z1x NF Rel z3i z3g
abbrev z3m (x:Arc):List D:=[z2j x.1,z2j x.2.1,z2w x.2.2]
abbrev zbp (l:List Arc):D:=.slice (l.map z3m)
abbrev z71 (l:List Arc):List D:=[zbp l]
abbrev zkk (F:List Bool):D:=.slice (F.map fun b=>[zby b])
abbrev auc (a:Au):List D:=[zkk a.F,.slice (a.A.map z71)]
abbrev auD (a:Au):D:=.agg (auc a)
def zo9 (a:Au):Prop:=a.F.length≤9223372036854775807∧a.A.length≤9223372036854775807∧∀ l∈a.A,l.length≤9223372036854775807
def zzm (l:List Arc) (i:Nat):Option Arc:=if i=0 then none else l[i-1]?
theorem zap (a:Au) (hf:zo9 a):z0y Tryz.prog 16 [.d (auD a)] (I .i64 (vAu a)):=by
 obtain⟨F,A⟩:=a
 obtain⟨f1,f2,f3⟩:=hf
 simp only at f1 f2 f3
 refine z1r fun H=>?_
 refine z0k Tryz.func16 (by kernel_rfl) rfl (by simp) ?_
 dsimp only[Tryz.f16]
 rw[vAu]
 simp only
 by_cases h1:256<F.length
 · rw[zAz h1]
   all_goals exact zD37
 rw[zAy h1]
 by_cases h2:F.length=0∨A.length≠F.length
 · rw[zAz h2]
   all_goals exact zD37
 rw[zAy h2]
 have e1:A.length=F.length:=by omega
 have e2:0<F.length:=by omega
 repeat' (first|(apply z07;(first|refine z0r ?_| (apply z0b;(refine z02 z1i rfl rfl ?_))|(apply z0e;(refine z02 z0q rfl rfl ?_))|(apply z11;(refine z02 (z1k rfl) rfl rfl ?_))|(apply z1s;(refine z0a z3y ?_))))|(apply z08;(first|refine z0p ?_|apply z09|refine z1v ?_| refine z2n (fun _=>?_) (fun _=>?_)))|(apply z05;(first|apply z06|apply z00|refine z1c ?_| apply z04|apply z01|apply z03|refine z0f (fun _=>?_) (fun _=>?_)| refine z5o rfl (fun _=>?_) (fun _=>?_))))
 all_goals try (exfalso;simp only[zA4] at *;omega)
 refine z1f ?_
 refine z0d (z25 (fun q:Nat=>⟨99,[(1,.ptr (0,1) 0),(3,I .i64 F.length),(25,.d (.slice (A.map z71))),(26,I .i64 A.length),(27,I .i64 (q:Nat))],[(1,.box [.d (zkk F),.d (.slice (A.map z71))])],H⟩) (fun q=>q≤A.length∧zef F.length (A.drop q)=zef F.length A) (fun q=>A.length-q) ?_ 0 ⟨zAf _,rfl⟩) rfl rfl
 rintro i ⟨i1,i2⟩ ih
 by_cases hlt:i<A.length
 · obtain⟨l,hl⟩:∃ l,A[i]? =some l:=⟨_,zA0 hlt⟩
   have hlm:=f3 l (zA2 hl)
   rw[drop_cons hl,zef] at i2
   repeat' (first|(apply z07;(first|refine z0r ?_| (apply z0b;(refine z02 z2r rfl rfl ?_))|(apply z0m;(refine z02 (z1b (ys:=A.map z71) rfl (idx hl)) rfl rfl ?_))|(apply z11;(refine z02 (z1k rfl) rfl rfl ?_))))|(apply z08;(first|refine z0p ?_|apply z09))|(apply z05;(first|apply z06|apply z00|apply z04|apply z01|refine z0f (fun _=>?_) (fun _=>?_)| refine z0l ?_)))
   all_goals try (exfalso;omega)
   refine z1f ?_
   refine z0d (z25 (fun q:Nat=>⟨99,[(1,.ptr (0,1) 0),(3,I .i64 F.length),(25,.d (.slice (A.map z71))),(26,I .i64 A.length),(27,I .i64 (i:Nat)),(5,.d (zbp l)),(31,.d (zbp l)),(32,I .i64 l.length),(33,I .i64 (q:Nat))],[(1,.box [.d (zkk F),.d (.slice (A.map z71))])],H⟩) (fun q=>q≤l.length∧zkc F.length (zzm l q) (l.drop q)=zkc F.length none l∧∀ y,zzm l q=some y→0≤y.1∧y.1≤y.2.1∧y.2.1≤1114111) (fun q=>l.length-q) ?_ 0 ⟨zAf _,rfl,by intro y hy;cases hy⟩) rfl rfl
   rintro k ⟨k1,k2,k3⟩ ihk
   by_cases hk:k<l.length
   · obtain⟨x,hx⟩:∃ x,l[k]? =some x:=⟨_,zA0 hk⟩
     have hpk:zzm l (k+1)=some x:=by rw[zzm,zAy (by omega)];exact hx
     rw[drop_cons hx,zcp] at k2
     by_cases hb:zwp F.length x=true
     · rw[zAz hb] at k2
       rw[← k2,zAz (by decide)] at i2
       rw[← i2]
       simp only[zwp,zAu,zA3] at hb
       repeat' (first|(apply z07;(first|refine z0r ?_| (apply z0b;(first|refine z02 z1i rfl rfl ?_| refine z02 z1z rfl rfl ?_))|(apply z0e;(refine z02 z0q rfl rfl ?_))|(apply z0m;(refine z02 (z1b (ys:=l.map z3m) rfl (idx hx)) rfl rfl ?_))|(apply z0t;(refine z02 (z0u z0x) rfl rfl ?_))|(apply z0c;(refine z22 ?_))|(apply z0g;(refine z0a z16 ?_))))|(apply z08;(first|refine z0p ?_|apply z09))|(apply z05;(first|apply z06|apply z00|refine z0w ?_| apply z04|apply z01|apply z2b|apply z03|refine z0f (fun _=>?_) (fun _=>?_)| refine z0l ?_))|(apply z2c;(first|(apply z0v;refine z1h mix ?_)|refine z27 ?_| refine z2e ?_| (apply z0j;(refine z0h z1i rfl rfl ?_))|(apply z0z;(refine z0h z0q rfl rfl ?_))|(apply z1m;(refine z0h (z1g z0x) rfl rfl ?_))|(refine z2k (fun hg=>?_) (fun hg=>?_)<;> simp only[hg] <;> (try simp only[zA3,zA5,zA6,zA8] at hg)))))
       all_goals exact zD103
     · rw[zAy hb] at k2
       simp only[zwp,zAu,zA3,not_or] at hb
       cases k with
       | zero =>
        rw[show zzm l 0=none from rfl] at k2
        simp only at k2
        have ihk':=ihk 1 ⟨by omega,by rw[hpk];exact k2,fun y hy=>by rw[hpk] at hy;cases hy;omega⟩ (by omega)
        repeat' (first|(apply z07;(first|refine z0r ?_| (apply z0b;(first|refine z02 z1i rfl rfl ?_| refine z02 z1z rfl rfl ?_))|(apply z0e;(refine z02 z0q rfl rfl ?_))|(apply z0m;(refine z02 (z1b (ys:=l.map z3m) rfl (idx hx)) rfl rfl ?_))|(apply z0t;(refine z02 (z0u z0x) rfl rfl ?_))|(apply z0c;(refine z22 ?_))|(apply z0g;(refine z0a z16 ?_))))|(apply z08;(first|refine z0p ?_|apply z09))|(apply z05;(first|apply z06|apply z00|refine z0w ?_| apply z04|apply z01|apply z2b|apply z03|refine z0f (fun _=>?_) (fun _=>?_)| refine z0l ?_))|(apply z2c;(first|(apply z0v;refine z1h mix ?_)|refine z27 ?_| refine z2e ?_)))
        all_goals try (exfalso;omega)
        all_goals exact z0d ihk' rfl rfl
       | succ k =>
        obtain⟨y,hy⟩:∃ y,l[k]? =some y:=⟨_,zA0 (by omega)⟩
        have hpy:zzm l (k+1)=some y:=by rw[zzm,zAy (by omega)];exact hy
        have hyi:l[(((k+1:Nat):Int)-1).toNat]? =some y:=by rw[show (((k+1:Nat):Int)-1).toNat=k by omega];exact hy
        have hyr:=k3 y hpy
        rw[hpy] at k2
        simp only at k2
        by_cases ho:zwv y x=true
        · rw[zAz ho] at k2
          rw[← k2,zAz (by decide)] at i2
          rw[← i2]
          simp only[zwv,zAu,zA7,zA3] at ho
          repeat' (first|(apply z07;(first|refine z0r ?_| (apply z0b;(first|refine z02 z1i rfl rfl ?_| refine z02 z1z rfl rfl ?_))|(apply z0e;(refine z02 z0q rfl rfl ?_))|(apply z0m;(refine z02 (z1b (ys:=l.map z3m) rfl (idx hx)) rfl rfl ?_))|(apply z0t;(refine z02 (z0u z0x) rfl rfl ?_))|(apply z0c;(refine z22 ?_))|(apply z0g;(refine z0a z16 ?_))))|(apply z08;(first|refine z0p ?_|apply z09))|(apply z05;(first|apply z06|apply z00|refine z0w ?_| apply z04|apply z01|apply z2b|apply z03|refine z0f (fun _=>?_) (fun _=>?_)| refine z0l ?_))|(apply z2c;(first|(apply z0v;refine z1h mix ?_)|refine z27 ?_| refine z2e ?_| (apply z0j;(first|refine z0h z1i rfl rfl ?_| refine z0h z2r rfl rfl ?_))|(apply z0z;(first|refine z0h z0q rfl rfl ?_| refine z0h (z6i rfl rfl) rfl rfl ?_))|(apply z0o;(refine z0h (z1b (ys:=l.map z3m) rfl (zgu hyi)) rfl rfl ?_))|(apply z1m;(first|refine z0h (z0u (zak (by omega) (by omega))) rfl rfl ?_| refine z0h (z1g z0x) rfl rfl ?_))|(refine z2k (fun hg=>?_) (fun hg=>?_)<;> simp only[hg] <;> (try simp only[zA3,zA5,zA6,zA8] at hg)))))
          all_goals exact zD103
        · rw[zAy ho] at k2
          simp only[zwv,zAu,zA7,zA3,not_or,not_and] at ho
          have ihk':=ihk (k+2) ⟨by omega,by rw[hpk];exact k2,fun y hy=>by rw[hpk] at hy;cases hy;omega⟩ (by omega)
          repeat' (first|(apply z07;(first|refine z0r ?_| (apply z0b;(first|refine z02 z1i rfl rfl ?_| refine z02 z1z rfl rfl ?_))|(apply z0e;(refine z02 z0q rfl rfl ?_))|(apply z0m;(refine z02 (z1b (ys:=l.map z3m) rfl (idx hx)) rfl rfl ?_))|(apply z0t;(refine z02 (z0u z0x) rfl rfl ?_))|(apply z0c;(refine z22 ?_))|(apply z0g;(refine z0a z16 ?_))))|(apply z08;(first|refine z0p ?_|apply z09))|(apply z05;(first|apply z06|apply z00|refine z0w ?_| apply z04|apply z01|apply z2b|apply z03|refine z0f (fun _=>?_) (fun _=>?_)| refine z0l ?_))|(apply z2c;(first|(apply z0v;refine z1h mix ?_)|refine z27 ?_| refine z2e ?_| (apply z0j;(first|refine z0h z1i rfl rfl ?_| refine z0h z2r rfl rfl ?_))|(apply z0z;(first|refine z0h z0q rfl rfl ?_| refine z0h (z6i rfl rfl) rfl rfl ?_))|(apply z0o;(refine z0h (z1b (ys:=l.map z3m) rfl (zgu hyi)) rfl rfl ?_))|(apply z1m;(first|refine z0h (z0u (zak (by omega) (by omega))) rfl rfl ?_| refine z0h (z1g z0x) rfl rfl ?_))|(refine z2k (fun hg=>?_) (fun hg=>?_)<;> simp only[hg] <;> (try simp only[zA3,zA5,zA6,zA8] at hg)))))
          all_goals try (exfalso;omega)
          all_goals exact z0d ihk' rfl rfl
   · obtain rfl:k=l.length:=by omega
     rw[zAs,zkc] at k2
     rw[← k2,zAy (by decide)] at i2
     repeat' (first|(apply z07;(first|refine z0r ?_| (apply z0t;(refine z02 (z0u z0x) rfl rfl ?_))))|(apply z08;(first|refine z0p ?_|apply z09))|(apply z05;(first|apply z06|apply z00|apply z04|apply z01|apply z03|refine z0f (fun _=>?_) (fun _=>?_)| refine z0l ?_)))
     all_goals try (exfalso;omega)
     all_goals exact z0d (ih (i+1) ⟨by omega,i2⟩ (by omega)) rfl rfl
 · obtain rfl:i=A.length:=by omega
   rw[zAs,zef] at i2
   rw[← i2]
   repeat' (first|(apply z07;(refine z0r ?_))|(apply z08;(first|refine z0p ?_|apply z09))|(apply z05;(first|apply z06|apply z00|apply z04|apply z01|refine z0f (fun _=>?_) (fun _=>?_)| refine z0l ?_)))
   all_goals exact zD103
def y2l (a b:Int):Int:=if a<b then -1 else if b<a then 1 else 0
theorem zfj (a:Int):z0y Tryz.prog 112 [I .i32 a] (B false):=by
 refine z1r fun H=>?_
 refine z0k Tryz.func112 (by kernel_rfl) rfl (by simp) ?_
 dsimp only[Tryz.f112]
 repeat' (first|(apply z07;(refine z0r ?_))|(apply z08;(first|refine z0p ?_|apply z09))|(apply z05;(first|apply z06|apply z00)))
 all_goals try (exfalso;omega)
 all_goals exact z0n Tryz.func112 _ (zsc rfl (by simp only[ne_eq,not_true_eq_false,decide_false];rfl)) ⟨rfl,rfl⟩
theorem zq1 (a b:Int):z0y Tryz.prog 76 [I .i32 a,I .i32 b] (I .i64 (y2l a b)):=by
 refine z1r fun H=>?_
 have h1:=zfj a
 have h2:=zfj b
 refine z0k Tryz.func76 (by kernel_rfl) rfl (by simp) ?_
 dsimp only[Tryz.f76]
 rw[y2l]
 by_cases c1:a<b
 · rw[zAz c1]
   all_goals exact zD30
 · rw[zAy c1]
   by_cases c2:b<a
   · rw[zAz c2]
     all_goals exact zD30
   · rw[zAy c2]
     all_goals exact zD30
theorem zp0 (x:Arc) (c:Int):z0y Tryz.prog 75 [.d (.agg (z3m x)),I .i32 c] (I .i64 (y2l x.2.1 c)):=by
 refine z1r fun H=>?_
 have h1:=zq1 x.2.1 c
 refine z0k Tryz.func75 (by kernel_rfl) rfl (by simp) ?_
 dsimp only[Tryz.f75]
 repeat' (first|(apply z07;(first|refine z0r ?_| (apply z0b;(refine z02 z1i rfl rfl ?_))|(apply z0e;(refine z02 z0q rfl rfl ?_))|(apply z0s;(refine z1w h1 ?_))|(apply z1s;(refine z0a z3y ?_))))|(apply z08;(first|refine z0p ?_|apply z09))|(apply z05;(first|apply z06|apply z00)))
 all_goals try (exfalso;omega)
 all_goals exact z0n Tryz.func75 _ z19 ⟨rfl,rfl⟩
theorem zsr (l:List Arc) (hl:l.length≤4611686018427387904) (ho:okA none l) (c:Int):z0y Tryz.prog 74 [.d (zbp l),I .i32 c,.fn (.func 75) [] []] (.tup [I .i64 (zgv c l:Nat),B (match l[zgv c l]? with|some x=>decide (x.2.1=c)|none=>false)]):=by
 refine z1r fun H=>?_
 have hmono:=zkz ho
 refine z0k Tryz.func74 (by kernel_rfl) rfl (by simp) ?_
 dsimp only[Tryz.f74]
 repeat' (first|(apply z07;(first|refine z0r ?_| (apply z11;(refine z02 (z1k rfl) rfl rfl ?_))))|(apply z08;(first|refine z0p ?_|apply z09))|(apply z05;(first|apply z06|apply z00|apply z01)))
 all_goals try (exfalso;omega)
 refine z1f ?_
 refine z0d (z25 (fun q:Nat × Nat=>⟨49,[(0,.d (zbp l)),(1,I .i32 c),(2,.fn (.func 75) [] []),(8,I .i64 l.length),(9,I .i64 (q.1:Nat)),(10,I .i64 (q.2:Nat))],[],H⟩) (fun q=>q.1≤q.2∧q.2≤l.length∧(∀ p x,p<q.1→l[p]? =some x→x.2.1<c)∧∀ p x,q.2≤p→l[p]? =some x→¬ x.2.1<c) (fun q=>q.2-q.1) ?_ (0,l.length) ⟨zAf _,zAj _,fun p x h=>absurd h (Nat.not_lt_zero _),fun p x h1 h2=>by have:=(zA1.1 h2).1;omega⟩) rfl rfl
 rintro⟨i,j⟩ ⟨i1,i2,i3,i4⟩ ih
 simp only at i1 i2 i3 i4 ih ⊢
 by_cases hlt:i<j
 · have hh:((((i:Nat):Int)+((j:Nat):Int)) / 2)=(((i+j) / 2:Nat):Int):=by omega
   obtain⟨x,hx⟩:∃ x,l[(i+j) / 2]? =some x:=⟨_,zA0 (by omega)⟩
   have hxi:l[((((i:Nat):Int)+((j:Nat):Int)) / 2).toNat]? =some x:=by rw[hh,zA9];exact hx
   have hc:=zp0 x c
   rw[y2l] at hc
   by_cases hlo:x.2.1<c
   · rw[zAz hlo] at hc
     have ih':=ih ((i+j) / 2+1,j) ⟨by simp only;omega,i2,fun p y hp hy=>by have:=hmono p _ y x (by simp only at hp;omega) hy hx;omega,i4⟩ (by simp only;omega)
     rw[show (((i+j) / 2+1:Nat):Int)=(((i:Nat):Int)+((j:Nat):Int)) / 2+1 by omega] at ih'
     repeat' (first|(apply z07;(first|refine z0r ?_| (apply z0b;(refine z02 z1z rfl rfl ?_))|(apply z0m;(refine z02 (z1b (ys:=l.map z3m) rfl (zgu hxi)) rfl rfl ?_))|(apply z0t;(first|refine z02 (zgy (by omega)) rfl rfl ?_| refine z02 (z0u z0x) rfl rfl ?_))|(apply z0s;(refine zbg (first:=[]) (cap:=[]) (ps:=[.d (.agg (z3m x)),I .i32 c]) hc rfl rfl (by decide) ?_))|(apply z6l;(first|refine z02 (z5c rfl rfl (zj1 (by omega) (by omega))) rfl rfl ?_| refine z02 (z5c rfl rfl z0x) rfl rfl ?_))))|(apply z08;(first|refine z0p ?_|apply z09|refine z1v ?_| refine z2n (fun _=>?_) (fun _=>?_)))|(apply z05;(first|apply z06|apply z00|refine z1c ?_| apply z04|apply z01|apply z03|refine z0f (fun _=>?_) (fun _=>?_)| refine z0l ?_)))
     all_goals exact zD18
   · have ih':=ih (i,(i+j) / 2) ⟨by simp only;omega,by simp only;omega,i3,fun p y hp hy=>by have:=hmono _ p x y hp hx hy;omega⟩ (by simp only;omega)
     rw[hh.symm] at ih'
     rw[zAy hlo] at hc
     have hc0:0≤(if c<x.2.1 then (1:Int) else 0):=by split <;> omega
     generalize (if c<x.2.1 then (1:Int) else 0)=cc at *
     repeat' (first|(apply z07;(first|refine z0r ?_| (apply z0b;(refine z02 z1z rfl rfl ?_))|(apply z0m;(refine z02 (z1b (ys:=l.map z3m) rfl (zgu hxi)) rfl rfl ?_))|(apply z0t;(first|refine z02 (zgy (by omega)) rfl rfl ?_| refine z02 (z0u z0x) rfl rfl ?_))|(apply z0s;(refine zbg (first:=[]) (cap:=[]) (ps:=[.d (.agg (z3m x)),I .i32 c]) hc rfl rfl (by decide) ?_))|(apply z6l;(first|refine z02 (z5c rfl rfl (zj1 (by omega) (by omega))) rfl rfl ?_| refine z02 (z5c rfl rfl z0x) rfl rfl ?_))))|(apply z08;(first|refine z0p ?_|apply z09|refine z1v ?_| refine z2n (fun _=>?_) (fun _=>?_)))|(apply z05;(first|apply z06|apply z00|apply z04|apply z01|apply z03|refine z0f (fun _=>?_) (fun _=>?_)| refine z0l ?_)))
     all_goals exact zD18
 · obtain rfl:i=j:=by omega
   have hcut:=y1j (c:=c) i2 i3 (fun x hx=>i4 i x (zAj _) hx)
   rw[← hcut]
   clear ih
   by_cases hin:i<l.length
   · obtain⟨x,hx⟩:∃ x,l[i]? =some x:=⟨_,zA0 hin⟩
     have hnl:=i4 i x (zAj _) hx
     have hc:=zp0 x c
     rw[y2l,zAy hnl] at hc
     rw[hx]
     simp only
     by_cases he:c<x.2.1
     · rw[zAz he] at hc
       rw[show decide (x.2.1=c)=false by simp;omega]
       all_goals exact zD26
     · rw[zAy he] at hc
       rw[show decide (x.2.1=c)=true by simp;omega]
       all_goals exact zD26
   · rw[zAv (by omega)]
     repeat' (first|(apply z07;(first|refine z0r ?_| (apply z0t;(first|refine z02 (z0u z0x) rfl rfl ?_| refine z02 (zgy (by omega)) rfl rfl ?_))|(apply z6l;(first|refine z02 (z5c rfl rfl (zj1 (by omega) (by omega))) rfl rfl ?_| refine z02 (z5c rfl rfl z0x) rfl rfl ?_))))|(apply z08;(first|refine z0p ?_|apply z09|refine z1v ?_| refine z2n (fun _=>?_) (fun _=>?_)))|(apply z05;(first|apply z06|apply z00|apply z04|apply z01|refine z0f (fun _=>?_) (fun _=>?_)| refine z0l ?_)))
     all_goals try (exfalso;omega)
     all_goals exact z0n Tryz.func74 _ z5j ⟨rfl,rfl⟩
theorem zog (l:List Arc) (hl:l.length≤4611686018427387904) (ho:okA none l) (c:Int):z0y Tryz.prog 41 [.d (zbp l),I .i32 c] (I .i64 (nxt l c)):=by
 refine z1r fun H=>?_
 have hb:=zsr l hl ho c
 have hcl:=zrw c l
 rw[zq6 ho]
 refine z0k Tryz.func41 (by kernel_rfl) rfl (by simp) ?_
 dsimp only[Tryz.f41]
 by_cases hin:zgv c l<l.length
 · obtain⟨x,hx⟩:∃ x,l[zgv c l]? =some x:=⟨_,zA0 hin⟩
   rw[hx] at hb ⊢
   simp only at hb ⊢
   generalize zgv c l=i at *
   by_cases hc:c<x.1
   · rw[zAz hc]
     all_goals exact zD29
   · rw[zAy hc]
     all_goals exact zD29
 · rw[zAv (by omega)] at hb ⊢
   simp only at hb ⊢
   have:zgv c l=l.length:=by omega
   rw[this] at hb
   repeat' (first|(apply z07;(first|refine z0r ?_| (apply z11;(refine z02 (z1k rfl) rfl rfl ?_))|(apply z0s;(refine zbg (first:=[]) (cap:=[]) (ps:=[.d (zbp l),I .i32 c,.fn (.func 75) [] []]) hb rfl rfl (by decide) ?_))))|(apply z08;(first|refine z0p ?_|apply z09|refine z1v ?_| refine z2n (fun _=>?_) (fun _=>?_)))|(apply z05;(first|apply z06|apply z00|refine z1c ?_)))
   all_goals try (exfalso;omega)
   all_goals exact z0n Tryz.func41 _ z19 ⟨rfl,rfl⟩
def zbc (op:Int) (p q:Bool):Bool:=if op=1 then p&&q else if op=2 then p||q else if op=3 then p&&!q else p != q
theorem zpa (op:Int) (p q:Bool):z0y Tryz.prog 95 [I .i64 op,B p,B q] (B (zbc op p q)):=by
 refine z1r fun H=>?_
 refine z0k Tryz.func95 (by kernel_rfl) rfl (by simp) ?_
 dsimp only[Tryz.f95]
 rw[zbc]
 by_cases h1:op=1
 · rw[zAz h1]
   exact zD20
 rw[zAy h1]
 by_cases h2:op=2
 · rw[zAz h2]
   exact zD20
 rw[zAy h2]
 by_cases h3:op=3
 · rw[zAz h3]
   exact zD20
 rw[zAy h3]
 exact zD20
def zeh (op:Int) (p q:Int):Bool:=if op=1 then decide (p<0)||decide (q<0) else if op=3 then decide (p<0) else decide (p<0)&&decide (q<0)
theorem zpw (op p q:Int):z0y Tryz.prog 100 [I .i64 op,.d (.agg [z2w p,z2w q])] (B (zeh op p q)):=by
 refine z1r fun H=>?_
 refine z0k Tryz.func100 (by kernel_rfl) rfl (by simp) ?_
 dsimp only[Tryz.f100]
 rw[zeh]
 by_cases h1:op=1
 · rw[zAz h1]
   by_cases p0:p<0
   · rw[zAi p0,Bool.true_or]
     all_goals exact zD9
   · rw[zAo p0,Bool.false_or]
     all_goals exact zD9
 rw[zAy h1]
 by_cases h3:op=3
 · rw[zAz h3]
   all_goals exact zD9
 rw[zAy h3]
 by_cases p0:p<0
 · rw[zAi p0,Bool.true_and]
   all_goals exact zD9
 · rw[zAo p0,Bool.false_and]
   all_goals exact zD9
theorem zh4 (a:Au) (q:Int) (hq:q<a.F.length):z0y Tryz.prog 96 [.d (auD a),I .i64 q] (B (a.fin q)):=by
 obtain⟨F,A⟩:=a
 refine z1r fun H=>?_
 refine z0k Tryz.func96 (by kernel_rfl) rfl (by simp) ?_
 dsimp only[Tryz.f96]
 rw[Au.fin]
 by_cases hn:q<0
 · rw[zAz hn]
   repeat' (first|(apply z07;(first|refine z0r ?_| (apply z0b;(refine z02 z1i rfl rfl ?_))|(apply z0e;(refine z02 z0q rfl rfl ?_))|(apply z1s;(refine z0a z3y ?_))))|(apply z08;(first|refine z0p ?_|apply z09|refine z1v ?_| refine z2n (fun _=>?_) (fun _=>?_)))|(apply z05;(first|apply z06|apply z00)))
   all_goals try (exfalso;omega)
   all_goals exact z0n Tryz.func96 _ z19 ⟨rfl,rfl⟩
 · rw[zAy hn]
   obtain⟨k,rfl⟩:∃ k:Nat,q=k:=⟨q.toNat,by omega⟩
   simp only at hq
   obtain⟨b,hb⟩:∃ b,F[k]? =some b:=⟨_,zA0 (by omega)⟩
   simp only[zA9,List.getD,hb,Option.getD_some]
   repeat' (first|(apply z07;(first|refine z0r ?_| (apply z0b;(first|refine z02 z1i rfl rfl ?_| refine z02 z2r rfl rfl ?_))|(apply z0e;(refine z02 z0q rfl rfl ?_))|(apply z0m;(refine z02 (z1b (ys:=F.map fun b=>[zby b]) rfl (idx (g:=fun b=>[zby b]) hb)) rfl rfl ?_))|(apply z1s;(refine z0a z3y ?_))))|(apply z08;(first|refine z0p ?_|apply z09))|(apply z05;(first|apply z06|apply z00)))
   all_goals try (exfalso;omega)
   all_goals exact z0n Tryz.func96 _ z19 ⟨rfl,rfl⟩
theorem znb (a:Au) (q:Int) (hq:q<a.A.length):z0y Tryz.prog 98 [.d (auD a),I .i64 q] (.d (zbp (a.arcs q))):=by
 obtain⟨F,A⟩:=a
 refine z1r fun H=>?_
 refine z0k Tryz.func98 (by kernel_rfl) rfl (by simp) ?_
 dsimp only[Tryz.f98]
 rw[Au.arcs]
 by_cases hn:q<0
 · rw[zAz hn]
   repeat' (first|(apply z07;(first|refine z0r ?_| (apply z0b;(refine z02 z1i rfl rfl ?_))|(apply z0e;(refine z02 z0q rfl rfl ?_))|(apply z1s;(refine z0a z3y ?_))))|(apply z08;(first|refine z0p ?_|apply z09))|(apply z05;(first|apply z06|apply z00|apply z04|refine z0f (fun _=>?_) (fun _=>?_))))
   all_goals try (exfalso;omega)
   refine y1z 4 rfl ?_
   all_goals exact z0n Tryz.func98 _ z19 ⟨rfl,rfl⟩
 · rw[zAy hn]
   obtain⟨k,rfl⟩:∃ k:Nat,q=k:=⟨q.toNat,by omega⟩
   simp only at hq
   obtain⟨l,hb⟩:∃ l,A[k]? =some l:=⟨_,zA0 (by omega)⟩
   simp only[zA9,List.getD,hb,Option.getD_some]
   repeat' (first|(apply z07;(first|refine z0r ?_| (apply z0b;(first|refine z02 z1i rfl rfl ?_| refine z02 z2r rfl rfl ?_))|(apply z0e;(refine z02 z0q rfl rfl ?_))|(apply z0m;(refine z02 (z1b (ys:=A.map z71) rfl (idx hb)) rfl rfl ?_))|(apply z1s;(refine z0a z3y ?_))))|(apply z08;(first|refine z0p ?_|apply z09))|(apply z05;(first|apply z06|apply z00|refine z0w ?_| apply z04)))
   all_goals try (exfalso;omega)
   all_goals exact z0n Tryz.func98 _ z19 ⟨rfl,rfl⟩
theorem zyu (l:List Arc) (hl:l.length≤2000000):z0y Tryz.prog 85 [.d (zbp l)] (.d (zbp l)):=by
 refine z1r fun H=>?_
 refine z0k Tryz.func85 (by kernel_rfl) rfl (by simp) ?_
 dsimp only[Tryz.f85]
 repeat' (first|(apply z07;(first|refine z0r ?_| (apply z11;(refine z02 (z1k rfl) rfl rfl ?_))))|(apply z08;(first|refine z0p ?_|apply z09))|(apply z05;(first|apply z06|apply z00|apply z01)))
 all_goals try (exfalso;omega)
 refine z2x 3 1000 169 3 rfl rfl rfl ?_
 refine z1f ?_
 refine z0d (z25 (fun q:Nat=>⟨24,[(3,.ref (0,1000)),(6,.d (zbp l)),(7,I .i64 l.length),(8,I .i64 (q:Nat))],[(1000,.row 169 3 ((l.take q).map z3m))],H⟩) (fun q=>q≤l.length) (fun q=>l.length-q) ?_ 0 (zAf _)) rfl rfl
 rintro i i1 ih
 by_cases hlt:i<l.length
 · obtain⟨x,hx⟩:∃ x,l[i]? =some x:=⟨_,zA0 hlt⟩
   have ih':=ih (i+1) (by omega) (by omega)
   rw[z8v hx] at ih'
   have htl:(l.take i).length≤2000000:=by rw[zAm];omega
   generalize l.take i=Q at *
   repeat' (first|(apply z07;(first|refine z0r ?_| (apply z0b;(first|refine z02 z1i rfl rfl ?_| refine z02 z1z rfl rfl ?_))|(apply z0e;(refine z02 z0q rfl rfl ?_))|(apply z0m;(refine z02 (z1b (ys:=l.map z3m) rfl (idx hx)) rfl rfl ?_))|(apply z0t;(refine z02 (z0u z0x) rfl rfl ?_))|(apply z11;(refine z3w (g:=z3m) x rfl ?_))|(apply z0c;(refine z22 ?_))|(apply z0g;(refine z0a z16 ?_))|(apply z10;(refine z23 ?_))|(apply z2o;(refine z2s rfl ?_))))|(apply z08;(first|refine z0p ?_|apply z09))|(apply z05;(first|apply z06|apply z00|apply z04|apply z01|apply z03|refine z0f (fun _=>?_) (fun _=>?_)| refine z0l ?_)))
   all_goals try (exfalso;omega)
   all_goals refine z2p 21 1000 ?_
   all_goals exact z0d ih' rfl rfl
 · obtain rfl:i=l.length:=by omega
   rw[List.take_length] at *
   repeat' (first|(apply z07;(refine z0r ?_))|(apply z08;(first|refine z0p ?_|apply z09))|(apply z05;(first|apply z06|apply z00|apply z04|apply z01|refine z0f (fun _=>?_) (fun _=>?_)| refine z0l ?_)))
   all_goals try (exfalso;omega)
   all_goals refine z2g 1000 rfl ?_
   all_goals exact z0n Tryz.func85 _ z19 ⟨rfl,rfl⟩
def z5k (l:List Arc):List Rx.Rg:=l.map fun x=>(x.1,x.2.1)
theorem zeq (l:List Arc) (hl:l.length≤2000000):z0y Tryz.prog 99 [.d (zbp l)] (.d (rgs (z5k l))):=by
 refine z1r fun H=>?_
 refine z0k Tryz.func99 (by kernel_rfl) rfl (by simp) ?_
 dsimp only[Tryz.f99]
 repeat' (first|(apply z07;(first|refine z0r ?_| (apply z11;(refine z02 (z1k rfl) rfl rfl ?_))))|(apply z08;(first|refine z0p ?_|apply z09))|(apply z05;(first|apply z06|apply z00|apply z01)))
 all_goals try (exfalso;omega)
 refine z2x 3 1000 155 2 rfl rfl rfl ?_
 refine z1f ?_
 refine z0d (z25 (fun q:Nat=>⟨22,[(3,.ref (0,1000)),(6,.d (zbp l)),(7,I .i64 l.length),(8,I .i64 (q:Nat))],[(1000,.row 155 2 (((z5k l).take q).map rgc))],H⟩) (fun q=>q≤l.length) (fun q=>l.length-q) ?_ 0 (zAf _)) rfl rfl
 rintro i i1 ih
 by_cases hlt:i<l.length
 · obtain⟨x,hx⟩:∃ x,l[i]? =some x:=⟨_,zA0 hlt⟩
   have hr:(z5k l)[i]? =some (x.1,x.2.1):=by rw[z5k,zAd,hx];rfl
   have ih':=ih (i+1) (by omega) (by omega)
   rw[z8v hr] at ih'
   have htl:((z5k l).take i).length≤2000000:=by rw[zAm];omega
   generalize (z5k l).take i=Q at *
   repeat' (first|(apply z07;(first|refine z0r ?_| (apply z0b;(first|refine z02 z1i rfl rfl ?_| refine z02 z1z rfl rfl ?_))|(apply z0e;(refine z02 z0q rfl rfl ?_))|(apply z0m;(refine z02 (z1b (ys:=l.map z3m) rfl (idx hx)) rfl rfl ?_))|(apply z0t;(refine z02 (z0u z0x) rfl rfl ?_))|(apply z11;(refine z3w (g:=rgc) (x.1,x.2.1) rfl ?_))|(apply z0c;(refine z22 ?_))|(apply z0g;(refine z0a z16 ?_))|(apply z10;(refine z23 ?_))|(apply z2o;(refine z2s rfl ?_))))|(apply z08;(first|refine z0p ?_|apply z09))|(apply z05;(first|apply z06|apply z00|apply z04|apply z01|apply z03|refine z0f (fun _=>?_) (fun _=>?_)| refine z0l ?_)))
   all_goals try (exfalso;omega)
   all_goals refine z2p 19 1000 ?_
   all_goals exact z0d ih' rfl rfl
 · obtain rfl:i=l.length:=by omega
   rw[show l.length=(z5k l).length by rw[z5k,zA4],List.take_length] at *
   repeat' (first|(apply z07;(refine z0r ?_))|(apply z08;(first|refine z0p ?_|apply z09))|(apply z05;(first|apply z06|apply z00|apply z04|apply z01|refine z0f (fun _=>?_) (fun _=>?_)| refine z0l ?_)))
   all_goals try (exfalso;omega)
   all_goals refine z2g 1000 rfl ?_
   all_goals exact z0n Tryz.func99 _ z19 ⟨rfl,rfl⟩
abbrev ints (l:List Int):D:=.slice (l.map fun x=>[z2w x])
theorem zis (l:List Arc) (cl:List Int) (hl:l.length≤2000000) (hr:∀ x∈l,0≤x.1∧x.1≤x.2.1∧x.2.1≤1114111∧0≤x.2.2∧x.2.2<cl.length):z0y Tryz.prog 81 [.d (zbp l),.d (ints cl)] (.d (zbp (byC cl l))):=by
 refine z1r fun H=>?_
 refine z0k Tryz.func81 (by kernel_rfl) rfl (by simp) ?_
 dsimp only[Tryz.f81]
 repeat' (first|(apply z07;(first|refine z0r ?_| (apply z11;(refine z02 (z1k rfl) rfl rfl ?_))))|(apply z08;(first|refine z0p ?_|apply z09))|(apply z05;(first|apply z06|apply z00|apply z01)))
 all_goals try (exfalso;omega)
 refine z2x 5 1000 169 3 rfl rfl rfl ?_
 refine z1f ?_
 refine z0d (z25 (fun q:Nat × List Arc=>⟨67,[(1,.d (ints cl)),(5,.ref (0,1000)),(10,.d (zbp l)),(11,I .i64 l.length),(12,I .i64 (q.1:Nat))],[(1000,.row 169 3 (q.2.map z3m))],H⟩) (fun q=>q.1≤l.length∧q.2.length≤q.1∧(∀ y∈q.2,0≤y.2.1∧y.2.1≤1114111)∧(l.drop q.1).foldl (zb8 cl) q.2=byC cl l) (fun q=>l.length-q.1) ?_ (0,[]) ⟨zAf _,zAj _,by simp,rfl⟩) rfl rfl
 rintro⟨i,out⟩ ⟨i1,i2,i3,i4⟩ ih
 simp only at i1 i2 i3 i4 ih ⊢
 by_cases hlt:i<l.length
 · obtain⟨x,hx⟩:∃ x,l[i]? =some x:=⟨_,zA0 hlt⟩
   obtain⟨r1,r2,r3,r4,r5⟩:=hr x (zA2 hx)
   obtain⟨k,hk⟩:∃ k,cl[x.2.2.toNat]? =some k:=⟨_,zA0 (by omega)⟩
   have hck:clA cl x.2.2=k:=by rw[clA,zAy (by omega),List.getD,hk];rfl
   rw[drop_cons hx,List.foldl_cons,zb8,hck] at i4
   by_cases hneg:k<0
   · rw[zAz hneg] at i4
     have ih':=ih (i+1,out) ⟨by simp only;omega,by simp only;omega,i3,i4⟩ (by simp only;omega)
     repeat' (first|(apply z07;(first|refine z0r ?_| (apply z0b;(first|refine z02 z1i rfl rfl ?_| refine z02 z2r rfl rfl ?_| refine z02 z1z rfl rfl ?_))|(apply z0e;(refine z02 z0q rfl rfl ?_))|(apply z0m;(first|refine z02 (z1b (ys:=l.map z3m) rfl (idx hx)) rfl rfl ?_| refine z02 (z1b (ys:=cl.map fun x=>[z2w x]) rfl (zgu (g:=fun x=>[z2w x]) hk)) rfl rfl ?_))|(apply z0t;(refine z02 (z0u z0x) rfl rfl ?_))|(apply z11;(refine z02 (z1t rfl) rfl rfl ?_))|(apply z0c;(refine z22 ?_))|(apply z0g;(refine z0a z16 ?_))|(apply z10;(refine z23 ?_))|(apply z2o;(refine z2s rfl ?_))))|(apply z08;(first|refine z0p ?_|apply z09))|(apply z05;(first|apply z06|apply z00|refine z0w ?_| apply z04|apply z01|apply z2b|refine z0f (fun _=>?_) (fun _=>?_)| refine z0l ?_))|(apply z2c;(first|(apply z0v;refine z1h mix ?_)|refine z27 ?_| refine z2e ?_| (apply z1m;(refine z0h (z1g z0x) rfl rfl ?_))|(refine z2k (fun hg=>?_) (fun hg=>?_)<;> simp only[hg] <;> (try simp only[zA3,zA5,zA6,zA8] at hg)))))
     all_goals exact zD18
   · rw[zAy hneg] at i4
     have hln:=zb7 out x.1 x.2.1 k
     have ih':=ih (i+1,ext out x.1 x.2.1 k) ⟨by simp only;omega,by simp only;omega,fun y hy=>by
      rcases ext_mem hy with h|h
      · omega
      · exact i3 y h,i4⟩ (by simp only;omega)
     clear ih hln
     rcases zjn out with rfl|⟨m,y,rfl⟩
     · rw[ext_nil] at ih'
       simp only at ih'
       repeat' (first|(apply z07;(first|refine z0r ?_| (apply z0b;(first|refine z02 z1i rfl rfl ?_| refine z02 z2r rfl rfl ?_| refine z02 z1z rfl rfl ?_))|(apply z0e;(refine z02 z0q rfl rfl ?_))|(apply z0m;(first|refine z02 (z1b (ys:=l.map z3m) rfl (idx hx)) rfl rfl ?_| refine z02 (z1b (ys:=cl.map fun x=>[z2w x]) rfl (zgu (g:=fun x=>[z2w x]) hk)) rfl rfl ?_))|(apply z0t;(refine z02 (z0u z0x) rfl rfl ?_))|(apply z11;(first|refine z02 (z6v rfl) rfl rfl ?_| refine z5z (g:=z3m) rfl rfl (x.1,x.2.1,k) rfl rfl rfl rfl rfl rfl rfl (by decide) (by simp) ?_))|(apply z0c;(refine z22 ?_))|(apply z0g;(refine z0a z16 ?_))|(apply z10;(refine z23 ?_))|(apply z2o;(refine z2s rfl ?_))))|(apply z08;(first|refine z0p ?_|apply z09))|(apply z05;(first|apply z06|apply z00|refine z0w ?_| apply z04|apply z01|apply z2b|apply z03|refine z0f (fun _=>?_) (fun _=>?_)| refine z0l ?_))|(apply z2c;(first|(apply z0v;refine z1h mix ?_)|refine z27 ?_| refine z2e ?_)))
       all_goals try (exfalso;first|omega|(simp at *;done))
       all_goals refine z2p 64 1000 ?_
       all_goals exact z0d ih' rfl rfl
     · have hy:=i3 y (by simp)
       have hln:((m++[y]).map z3m).length=m.length+1:=by simp
       have hln2:(m++[y]).length=m.length+1:=by simp
       have hix:(m++[y])[((((((m++[y]).map z3m).length:Nat):Int)-1)).toNat]? =some y:=by
        rw[hln,show (((m.length+1:Nat):Int)-1).toNat=m.length by omega];simp
       have hse:(m++[y]).set ((((((m++[y]).map z3m).length:Nat):Int)-1)).toNat ((y.1,x.2.1,y.2.2):Arc)=m++[(y.1,x.2.1,y.2.2)]:=by
        rw[hln,show (((m.length+1:Nat):Int)-1).toNat=m.length by omega];simp
       rw[z4k] at ih'
       by_cases hj:y.2.1+1=x.1∧y.2.2=k
       · rw[zAz hj,← hj.2] at ih'
         simp only at ih'
         repeat' (first|(apply z07;(first|refine z0r ?_| (apply z0b;(first|refine z02 z1i rfl rfl ?_| refine z02 z2r rfl rfl ?_| refine z02 z1z rfl rfl ?_))|(apply z0e;(first|refine z02 z0q rfl rfl ?_| refine z02 z4f rfl rfl ?_))|(apply z0m;(first|refine z02 (z1b (ys:=l.map z3m) rfl (idx hx)) rfl rfl ?_| refine z02 (z1b (ys:=cl.map fun x=>[z2w x]) rfl (zgu (g:=fun x=>[z2w x]) hk)) rfl rfl ?_| refine z02 (z3z rfl) rfl rfl ?_))|(apply z0t;(first|refine z02 (z0u z0x) rfl rfl ?_| refine z02 (z1g z0x) rfl rfl ?_))|(apply z11;(first|refine z02 (z6v rfl) rfl rfl ?_| refine z3w (g:=z3m) (x.1,x.2.1,k) rfl ?_))|(apply z0c;(first|refine z5d ((y.1,x.2.1,y.2.2):Arc) hix hse ?_| refine z22 ?_))|(apply z0g;(refine z0a z16 ?_))|(apply z10;(refine z23 ?_))|(apply z2o;(refine z2s rfl ?_))))|(apply z08;(first|refine z0p ?_|apply z09))|(apply z05;(first|apply z06|apply z00|refine z0w ?_| apply z04|apply z01|apply z2b|apply z03|refine z0f (fun _=>?_) (fun _=>?_)| refine z0l ?_))|(apply z2c;(first|(apply z0v;refine z1h mix ?_)|refine z27 ?_| refine z2e ?_| (apply z0j;(first|refine z0h (z13 (u:=z2j y.2.1) hix) rfl rfl ?_| refine z0h (z13 (u:=z2w y.2.2) hix) rfl rfl ?_| refine z0h z1i rfl rfl ?_))|(apply z0z;(first|refine z0h z0q rfl rfl ?_| refine z0h z4f rfl rfl ?_))|(apply z0o;(refine z0h (z3z rfl) rfl rfl ?_))|(apply z1m;(first|refine z0h (z0u (zak (by omega) (by omega))) rfl rfl ?_| refine z0h (z1g z0x) rfl rfl ?_))|(refine z2k (fun hg=>?_) (fun hg=>?_)<;> simp only[hg] <;> (try simp only[zA3,zA5,zA6,zA8] at hg)))))
         all_goals exact zD18
       · rw[zAy hj] at ih'
         simp only at ih'
         repeat' (first|(apply z07;(first|refine z0r ?_| (apply z0b;(first|refine z02 z1i rfl rfl ?_| refine z02 z2r rfl rfl ?_| refine z02 z1z rfl rfl ?_))|(apply z0e;(first|refine z02 z0q rfl rfl ?_| refine z02 z4f rfl rfl ?_))|(apply z0m;(first|refine z02 (z1b (ys:=l.map z3m) rfl (idx hx)) rfl rfl ?_| refine z02 (z1b (ys:=cl.map fun x=>[z2w x]) rfl (zgu (g:=fun x=>[z2w x]) hk)) rfl rfl ?_| refine z02 (z3z rfl) rfl rfl ?_))|(apply z0t;(first|refine z02 (z0u z0x) rfl rfl ?_| refine z02 (z1g z0x) rfl rfl ?_))|(apply z11;(first|refine z02 (z6v rfl) rfl rfl ?_| refine z3w (g:=z3m) (x.1,x.2.1,k) rfl ?_))|(apply z0c;(first|refine z5d ((y.1,x.2.1,y.2.2):Arc) hix hse ?_| refine z22 ?_))|(apply z0g;(refine z0a z16 ?_))|(apply z10;(refine z23 ?_))|(apply z2o;(refine z2s rfl ?_))))|(apply z08;(first|refine z0p ?_|apply z09))|(apply z05;(first|apply z06|apply z00|refine z0w ?_| apply z04|apply z01|apply z2b|apply z03|refine z0f (fun _=>?_) (fun _=>?_)| refine z0l ?_))|(apply z2c;(first|(apply z0v;refine z1h mix ?_)|refine z27 ?_| refine z2e ?_| (apply z0j;(first|refine z0h (z13 (u:=z2j y.2.1) hix) rfl rfl ?_| refine z0h (z13 (u:=z2w y.2.2) hix) rfl rfl ?_| refine z0h z1i rfl rfl ?_))|(apply z0z;(first|refine z0h z0q rfl rfl ?_| refine z0h z4f rfl rfl ?_))|(apply z0o;(refine z0h (z3z rfl) rfl rfl ?_))|(apply z1m;(first|refine z0h (z0u (zak (by omega) (by omega))) rfl rfl ?_| refine z0h (z1g z0x) rfl rfl ?_))|(refine z2k (fun hg=>?_) (fun hg=>?_)<;> simp only[hg] <;> (try simp only[zA3,zA5,zA6,zA8] at hg)))))
         all_goals try (exfalso;omega)
         all_goals refine z2p 64 1000 ?_
         all_goals exact z0d ih' rfl rfl
 · obtain rfl:i=l.length:=by omega
   rw[zAs,List.foldl_nil] at i4
   rw[← i4]
   repeat' (first|(apply z07;(refine z0r ?_))|(apply z08;(first|refine z0p ?_|apply z09))|(apply z05;(first|apply z06|apply z00|apply z04|apply z01|refine z0f (fun _=>?_) (fun _=>?_)| refine z0l ?_)))
   all_goals try (exfalso;omega)
   all_goals refine z2g 1000 rfl ?_
   all_goals exact z0n Tryz.func81 _ z19 ⟨rfl,rfl⟩
open Go.Ab Go.Ax Go.Rx
theorem zkq (l:List Rg) (hl:l.length≤9223372036854775807) (c:Int):z0y Tryz.prog 62 [.d (rgs l),I .i32 c] (B (inB l c)):=by
 refine z1r fun H=>?_
 refine z0k Tryz.func62 (by kernel_rfl) rfl (by simp) ?_
 dsimp only[Tryz.f62]
 repeat' (first|(apply z07;(first|refine z0r ?_| (apply z11;(refine z02 (z1k rfl) rfl rfl ?_))))|(apply z08;(first|refine z0p ?_|apply z09))|(apply z05;(first|apply z06|apply z00|apply z01)))
 all_goals try (exfalso;omega)
 refine z1f ?_
 refine z0d (z25 (fun q:Nat=>⟨24,[(1,I .i32 c),(7,.d (rgs l)),(8,I .i64 l.length),(9,I .i64 (q:Nat))],[],H⟩) (fun q=>q≤l.length∧inB (l.drop q) c=inB l c) (fun q=>l.length-q) ?_ 0 ⟨zAf _,rfl⟩) rfl rfl
 intro q ⟨i1,i2⟩ ih
 by_cases hlt:q<l.length
 · obtain⟨r,hr⟩:∃ r,l[q]? =some r:=⟨_,zA0 hlt⟩
   rw[drop_cons hr,inB,List.any_cons,← inB] at i2
   by_cases hc:r.1≤c∧c≤r.2
   · rw[zAi hc.1,zAi hc.2,Bool.true_and,Bool.true_or] at i2
     rw[← i2]
     repeat' (first|(apply z07;(first|refine z0r ?_| (apply z0b;(first|refine z02 z1i rfl rfl ?_| refine z02 z1z rfl rfl ?_))|(apply z0e;(refine z02 z0q rfl rfl ?_))|(apply z0m;(refine z02 (z1b (ys:=l.map rgc) rfl (idx hr)) rfl rfl ?_))|(apply z0t;(refine z02 (z0u z0x) rfl rfl ?_))|(apply z0c;(refine z22 ?_))|(apply z0g;(refine z0a z16 ?_))))|(apply z08;(first|refine z0p ?_|apply z09|refine z1v ?_| refine z2n (fun _=>?_) (fun _=>?_)))|(apply z05;(first|apply z06|apply z00|refine z0w ?_| apply z04|apply z01|apply z03|refine z0f (fun _=>?_) (fun _=>?_)| refine z0l ?_)))
     all_goals try (exfalso;omega)
     all_goals exact z0n Tryz.func62 _ z19 ⟨rfl,rfl⟩
   · exact zD24
 · obtain rfl:q=l.length:=by omega
   rw[zAs,inB,List.any_nil] at i2
   rw[← i2]
   repeat' (first|(apply z07;(refine z0r ?_))|(apply z08;(first|refine z0p ?_|apply z09))|(apply z05;(first|apply z06|apply z00|apply z04|apply z01|refine z0f (fun _=>?_) (fun _=>?_)| refine z0l ?_)))
   all_goals try (exfalso;omega)
   all_goals exact z0n Tryz.func62 _ z19 ⟨rfl,rfl⟩
abbrev cps (s:ByteArray) (i:Nat):List Int:=(rst s i).map (·.r)
def zzf (a:Au) (s:ByteArray):Bool:=if vAu a=0∧zuc s=true then a.acc 0 (cps s 0) else false
theorem zz6 {a:Au} (hv:y69 a) (k:Nat) (hk:k<a.F.length) (c:Int):∃ l,a.A[k]? =some l∧okA none l∧a.nx (k:Nat) c=nxt l c∧-1≤nxt l c∧nxt l c<a.F.length:=by
 obtain⟨l,hl⟩:∃ l,a.A[k]? =some l:=⟨_,zA0 (by rw[hv.len];exact hk)⟩
 have hla:=hv.arc l (zA2 hl)
 refine⟨l,hl,hla.1,by rw[Au.nx,Au.arcs,zAy (by omega),zA9,List.getD,hl];rfl,zkw (p:=none) hla.1 c,?_⟩
 have key:∀ m:List Arc,(∀ x∈m,x.2.2<a.F.length)→nxt m c<a.F.length:=fun m=>by
  induction m with
  | nil=>intro _;simp only[nxt];have:=hv.pos;omega
  | cons x m ih =>
   intro h
   rw[nxt]
   split
   · exact h x (by simp)
   · exact ih fun y hy=>h y (by simp[hy])
 exact key l fun x hx=>(hla.2 x hx).2.2.2.2
theorem y2r (s:ByteArray) (hs:s.size≤1000000):z0y Tryz.prog 40 [S s] (B (zuc s)):=by
 have h:=zr1 s hs
 rw[zrt] at h
 exact h
theorem zxo (a:Au) (hf:zo9 a) (hl:∀ l∈a.A,l.length≤4611686018427387904) (s:ByteArray) (hs:s.size≤1000000):z0y Tryz.prog 19 [.d (auD a),S s] (B (zzf a s)):=by
 have hv:=zap a hf
 have hd:=y2r s hs
 refine z1r fun H=>?_
 rw[zzf]
 by_cases h0:vAu a=0
 · rw[h0] at hv
   by_cases h1:zuc s=true
   · have hva:=zd1 h0
     rw[zAz ⟨h0,h1⟩]
     rw[h1] at hd
     obtain⟨F,A⟩:=a
     simp only at hl
     refine z0k Tryz.func19 (by kernel_rfl) rfl (by simp) ?_
     dsimp only[Tryz.f19]
     repeat' (first|(apply z07;(first|refine z0r ?_| (apply z0b;(refine z02 z2q rfl rfl ?_))|(apply z0s;(first|refine z1w hv ?_| refine z1w hd ?_))|(apply z1s;(refine z0a z3y ?_))|refine zge rfl rfl rfl (by decide) ?_))|(apply z08;(first|refine z0p ?_|apply z09))|(apply z05;(first|apply z06|apply z00|refine z0w ?_| apply z04|apply z01)))
     all_goals try (exfalso;omega)
     refine z1f ?_
     refine z0d (z25 (fun q:Nat × Nat=>⟨35,[(2,.ptr (0,2) 0),(5,I .i64 (q.2:Nat)),(17,.ptr (0,17) 0)],[(17,.siter s q.1),(2,.box [.d (zkk F),.d (.slice (A.map z71))])],H⟩) (fun q=>q.1≤s.size∧q.2<F.length∧(⟨F,A⟩:Au).acc (q.2:Nat) (cps s q.1)=(⟨F,A⟩:Au).acc 0 (cps s 0)) (fun q=>s.size-q.1) ?_ (0,0) ⟨zAf _,hva.pos,rfl⟩) rfl rfl
     rintro⟨q,k⟩ ⟨i1,i2,i3⟩ ih
     simp only at i1 i2 i3 ih ⊢
     by_cases hlt:q<s.size
     · have hd2:=zer hlt
       have hw:=zhy s q hlt
       rw[cps,hd2,List.map_cons,Au.acc_cons] at i3
       simp only at i3
       obtain⟨l,hA,hlo,hnx,n0,n1⟩:=zz6 hva k i2 ((Utf8.decode s q).1:Nat)
       simp only at hA n1
       rw[hnx] at i3
       have hst:=zog l (hl l (zA2 hA)) hlo ((Utf8.decode s q).1:Nat)
       generalize nxt l ((Utf8.decode s q).1:Nat)=r at *
       by_cases hr:r<0
       · rw[Au.acc_neg _ _ hr] at i3
         rw[← i3]
         repeat' (first|(apply z07;(first|refine z0r ?_| (apply z0b;(first|refine z02 z1i rfl rfl ?_| refine z02 z2r rfl rfl ?_))|(apply z0e;(refine z02 z0q rfl rfl ?_))|(apply z0m;(refine z02 (z1b (ys:=A.map z71) rfl (idx hA)) rfl rfl ?_))|(apply z0s;(refine z1w hst ?_))|refine z4t hlt rfl rfl (by decide) ?_))|(apply z08;(first|refine z0p ?_|apply z09))|(apply z05;(first|apply z06|apply z00|refine z1c ?_| apply z04|apply z01|apply z03|refine z0f (fun _=>?_) (fun _=>?_))))
         all_goals exact zD88
       · obtain⟨r,rfl⟩:∃ r':Nat,r=r':=⟨r.toNat,by omega⟩
         have ih':=ih (q+(Utf8.decode s q).2,r) ⟨by simp only;omega,by simp only;omega,i3⟩ (by simp only;omega)
         repeat' (first|(apply z07;(first|refine z0r ?_| (apply z0b;(first|refine z02 z1i rfl rfl ?_| refine z02 z2r rfl rfl ?_))|(apply z0e;(refine z02 z0q rfl rfl ?_))|(apply z0m;(refine z02 (z1b (ys:=A.map z71) rfl (idx hA)) rfl rfl ?_))|(apply z0s;(refine z1w hst ?_))|refine z4t hlt rfl rfl (by decide) ?_))|(apply z08;(first|refine z0p ?_|apply z09))|(apply z05;(first|apply z06|apply z00|refine z1c ?_| refine z0w ?_| apply z04|apply z01|apply z03)))
         all_goals exact zD18
     · rw[cps,za9 (by omega),List.map_nil,Au.acc_nil,Au.fin,zAy (by omega),zA9] at i3
       obtain⟨b,hb⟩:∃ b,F[k]? =some b:=⟨_,zA0 i2⟩
       simp only[List.getD,hb,Option.getD_some] at i3
       rw[← i3]
       repeat' (first|(apply z07;(first|refine z0r ?_| (apply z0b;(first|refine z02 z1i rfl rfl ?_| refine z02 z2r rfl rfl ?_))|(apply z0e;(refine z02 z0q rfl rfl ?_))|(apply z0m;(refine z02 (z1b (ys:=F.map fun b=>[zby b]) rfl (idx (g:=fun b=>[zby b]) hb)) rfl rfl ?_))|refine z4u hlt rfl rfl (by decide) ?_))|(apply z08;(first|refine z0p ?_|apply z09))|(apply z05;(first|apply z06|apply z00|refine z0w ?_| refine z0l ?_)))
       all_goals exact zD88
   · rw[zAy (fun h=>h1 h.2)]
     rw[Bool.not_eq_true] at h1
     rw[h1] at hd
     refine z0k Tryz.func19 (by kernel_rfl) rfl (by simp) ?_
     dsimp only[Tryz.f19]
     repeat' (first|(apply z07;(first|refine z0r ?_| (apply z0b;(refine z02 z2q rfl rfl ?_))|(apply z0s;(first|refine z1w hv ?_| refine z1w hd ?_))|(apply z1s;(refine z0a z3y ?_))))|(apply z08;(first|refine z0p ?_|apply z09))|(apply z05;(first|apply z06|apply z00|refine z1c ?_)))
     all_goals exact zD88
 · rw[zAy (fun h=>h0 h.1)]
   generalize vAu a=v at *
   refine z0k Tryz.func19 (by kernel_rfl) rfl (by simp) ?_
   dsimp only[Tryz.f19]
   repeat' (first|(apply z07;(first|refine z0r ?_| (apply z0b;(refine z02 z2q rfl rfl ?_))|(apply z0s;(first|refine z1w hv ?_| refine z1w hd ?_))|(apply z1s;(refine z0a z3y ?_))))|(apply z08;(first|refine z0p ?_|apply z09|refine z1v ?_| refine z6c rfl rfl (fun _=>?_) (fun _=>?_)))|(apply z05;(first|apply z06|apply z00|refine z1c ?_| apply z04|refine z81 rfl (fun _=>?_) (fun _=>?_))))
   all_goals exact zD88
end Go.Proofs.YthdfkabdoidjfaaGreatDoor
