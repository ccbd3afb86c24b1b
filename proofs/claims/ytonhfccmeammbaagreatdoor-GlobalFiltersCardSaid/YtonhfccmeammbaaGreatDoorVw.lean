/- A part. -/
import Derived.Test.YtonhfccmeammbaaGreatDoorVp
import Derived.Test.YtonhfccmeammbaaGreatDoorVq
set_option linter.all false
open Go.Proofs.Tryz
namespace Go.Proofs.YtonhfccmeammbaaGreatDoor
open Go.Ab Go.Rx
set_option maxHeartbeats 20000000
set_option maxRecDepth 100000
attribute [local irreducible] Run Ops Op1 z1z Val Tr z0q z1v NF Rel z5c z5d zal
theorem zuo(l:List Rg)(hl:l.length≤9223372036854775807):z0q prog 159 [.d (rgs l)] (B (zpq l)):=by
 refine z0y fun H=>?_
 refine z0g func159 (by kernel_rfl) rfl (by simp) ?_
 dsimp only[f159]
 repeat' first|(apply z05;first|refine z0n ?_| (apply z0s;refine z02 (z0w rfl) rfl rfl ?_))|(apply z06;first|refine z0m ?_|apply z09)|(apply z07;first|apply z08|apply z00|apply z01)
 all_goals try omega
 refine z0r ?_
 refine z0d (z1o (fun q:Nat × Int=>⟨47,[(0,.d (rgs l)),(5,.d (rgs l)),(6,I .i64 l.length),(7,I .i64 (q.1:Nat))],[],H⟩) (fun q=>q.1≤l.length∧prv l q.1 q.2∧zdr q.2 (l.drop q.1)=zdr 0 l) (fun q=>l.length-q.1) ?_ (0,0) ⟨zAf _,.inl ⟨rfl,rfl⟩,rfl⟩) rfl rfl
 rintro⟨i,a⟩ ⟨i1,i2,i3⟩ ih
 simp only at i1 i2 i3 ih⊢
 by_cases hlt:i<l.length
 ·obtain⟨r,hr⟩:∃r,l[i]? =some r:=⟨_,zA0 hlt⟩
  rw[zfw hr]at i3
  by_cases hgd:a≤r.1∧r.1≤r.2∧r.2≤1114111
  ·exact zD5
  ·have hb:zpq l=false:=by
    exact zD58
   rw[hb]
   rcases i2 with⟨rfl,rfl⟩|⟨hi,p,hp,rfl,hp0,hp1⟩
   ·repeat' (first|(apply z05;first|refine z0n ?_| (apply z0a;refine z02 z1w rfl rfl ?_)|(apply z0k;refine z02 (z1a (ys:=l.map rgc) rfl (idx hr)) rfl rfl ?_)|(apply z0t;refine z02 (z0z z1h) rfl rfl ?_)|(apply z0s;refine z02 (z0w rfl) rfl rfl ?_)|(apply z0f;refine z25 ?_)|(apply z0l;refine z0b z2e ?_))|(apply z06;first|refine z0m ?_|apply z09)|(apply z07;first|apply z08|apply z00|refine z1j ?_| refine z15 ?_| apply z04|apply z01|apply z2o|apply z03|refine z0h (fun _=>?_) (fun _=>?_)| refine z0o ?_)|(apply z2m;first|(apply z1e;refine z2c mix ?_)|refine z6d rfl rfl (by decide) ?_|refine z86 rfl rfl (by decide) ?_|refine z2w ?_| (apply z0v;refine z0x z16 rfl rfl ?_)|(apply z0u;refine z0x z0i rfl rfl ?_)|(refine z4h rfl rfl (fun hg=>?_) (fun hg=>?_) <;> simp only[hg] <;> (try simp only[zA3,zA5,zA6,zA8]at hg))))
    all_goals try omega
    all_goals exact z0e func159 _ z0p ⟨rfl,rfl⟩
   ·have hp':l[((i:Int)-1).toNat]? =some p:=by rw[←hp];congr 1;omega
    repeat' first|(apply z05;first|refine z0n ?_| (apply z0a;refine z02 z1w rfl rfl ?_)|(apply z0k;refine z02 (z1a (ys:=l.map rgc) rfl (idx hr)) rfl rfl ?_)|(apply z0t;refine z02 (z0z z1h) rfl rfl ?_)|(apply z0s;refine z02 (z0w rfl) rfl rfl ?_)|(apply z0f;refine z25 ?_)|(apply z0l;refine z0b z2e ?_))|(apply z06;first|refine z0m ?_|apply z09)|(apply z07;first|apply z08|apply z00|refine z1j ?_| refine z15 ?_| apply z04|apply z01|apply z2o|apply z03|refine z0h (fun _=>?_) (fun _=>?_)| refine z0o ?_)|(apply z2m;first|(apply z1e;refine z2c mix ?_)|refine z6d rfl rfl (by decide) ?_|refine z86 rfl rfl (by decide) ?_|refine z2w ?_| (apply z0v;first|refine z0x z16 rfl rfl ?_| refine z0x z2f rfl rfl ?_)|(apply z0u;first|refine z0x z0i rfl rfl ?_| refine z0x (z5o rfl rfl) rfl rfl ?_)|(apply z1i;refine z0x (z1a (ys:=l.map rgc) rfl (z6h hp')) rfl rfl ?_)|(apply z3p;first|refine z0x (z0z (zo4 (by omega) (by omega))) rfl rfl ?_| refine z0x (z2l z1h) rfl rfl ?_)|(refine z4h rfl rfl (fun hg=>?_) (fun hg=>?_) <;> simp only[hg] <;> (try simp only[zA3,zA5,zA6,zA8]at hg)))
    all_goals try omega
    all_goals exact z0e func159 _ z0p ⟨rfl,rfl⟩
 ·obtain rfl:i=l.length:=by omega
  rw[zAs,zdr]at i3
  rw[zpq,←i3,Bool.true_and]
  repeat' first|(apply z05;first|refine z0n ?_| (apply z0s;refine z02 (z0w rfl) rfl rfl ?_))|(apply z06;first|refine z0m ?_|apply z09)|(apply z07;first|apply z08|apply z00|apply z04|apply z01|refine z0h (fun _=>?_) (fun _=>?_)| refine z0o ?_)
  all_goals try omega
  refine z0e func159 _ z0p ⟨?_,rfl⟩
  congr 3;simp
theorem zi7:∀(e:Rx),fit e→vns e=true→z0q prog 136 [.d (Drx e)] (I .i64 (ps 1048576 e)):=by
 refine Rx.ind' fun op mn mx rs ks ih hfit hv=>?_
 obtain⟨hf1,hf2,hf3⟩:=hfit
 rw[vns,zA7]at hv
 refine z0y fun H=>?_
 refine z0g func136 (by kernel_rfl) rfl (by simp) ?_
 rw[Drx,z3i,ps]
 dsimp only[f136]
 by_cases o1:op=1
 ·rw[zAz o1]
  repeat' first|(apply z05;first|refine z0n ?_| (apply z0a;refine z02 z16 rfl rfl ?_)|(apply z0c;refine z02 z0i rfl rfl ?_)|(apply z0s;refine z02 (z0w rfl) rfl rfl ?_)|(apply z18;refine z0b z43 ?_))|(apply z06;first|refine z0m ?_|apply z09)|(apply z07;first|apply z08|apply z00|apply z04|apply z01|refine z0h (fun _=>?_) fun _=>?_)
  all_goals try omega
  exact z0e func136 _ z0p ⟨rfl,rfl⟩
 rw[zAy o1]
 repeat' first|(apply z05;first|refine z0n ?_| (apply z0a;refine z02 z16 rfl rfl ?_)|(apply z0c;refine z02 z0i rfl rfl ?_)|(apply z0s;refine z02 (z0w rfl) rfl rfl ?_)|(apply z18;refine z0b z43 ?_))|(apply z06;first|refine z0m ?_|apply z09)|(apply z07;first|apply z08|apply z00|apply z04|apply z01|refine z0h (fun _=>?_) fun _=>?_)
 all_goals try omega
 refine z0r ?_
 refine z0d (z1o (fun q:Nat × Int=>⟨39,[(1,.ptr (0,1) 0),(3,I .i64 q.2),(10,.d (.slice (ks.map rxc))),(11,I .i64 ks.length),(12,I .i64 (q.1:Nat))],[(1,.box ((rx5 op mn mx rs ks).map .d))],H⟩) (fun q=>q.1≤ks.length∧0≤q.2∧q.2≤1048576∧psL 1048576 (ks.drop q.1) q.2=psL 1048576 ks 0) (fun q=>ks.length-q.1) ?_ (0,0) ⟨zAf _,by simp,by simp,rfl⟩) rfl rfl
 rintro⟨i,a⟩ ⟨i1,i2,i3,i4⟩ ihl
 simp only at i1 i2 i3 i4 ihl⊢
 by_cases hlt:i<ks.length
 ·obtain⟨k,hk⟩:∃k,ks[i]? =some k:=⟨_,zA0 hlt⟩
  have hkv:=z5g hv.2 k (zA2 hk)
  have c:=ih k (zA2 hk) (z5z hf3 k (zA2 hk)) hkv
  have hr:=zx8 (C:=1048576) (by decide) k hkv
  rw[zmq hk]at i4
  generalize ps 1048576 k=pk at c hr i4
  obtain⟨op',mn',mx',rs',ks'⟩:=k
  have hk':=z62 hk
  rw[Drx,z3i]at c
  repeat' first|(apply z05;first|refine z0n ?_| (apply z0a;first|refine z02 z16 rfl rfl ?_| refine z02 z1w rfl rfl ?_| refine z02 z1y rfl rfl ?_)|(apply z0c;refine z02 z0i rfl rfl ?_)|(apply z0k;refine z02 (z1a (ys:=ks.map rxc) rfl hk') rfl rfl ?_)|(apply z0t;first|refine z02 (z0z z1h) rfl rfl ?_| refine z02 (zi9 z1h) rfl rfl ?_)|(apply z0s;first|refine z02 zcr rfl rfl ?_| refine z02 z84 rfl rfl ?_)|(apply z0j;refine z29 c ?_)|(apply z0f;refine z25 ?_)|(apply z0l;refine z0b z2e ?_))|(apply z06;first|refine z0m ?_|apply z09)|(apply z07;first|apply z08|apply z00|apply z04|apply z01|apply z03|refine z0h (fun _=>?_) (fun _=>?_)| refine z0o ?_)
  all_goals try omega
  exact z0d (ihl (i+1,min (a+pk) 1048576) ⟨by simp only;omega,by simp only;omega,by simp only;omega,i4⟩ (by simp only;omega)) rfl rfl
 ·obtain rfl:i=ks.length:=by omega
  rw[zAs,psL]at i4
  subst i4
  by_cases o4:op=4
  ·rw[zAz o4]
   rcases z7a hv.1 with h|h|h|⟨_,_,_,h1,h2,h3⟩
   ·exact absurd (h.1.symm.trans o4) (by decide)
   ·exact absurd (h.1.symm.trans o4) (by decide)
   ·exact absurd (h.1.symm.trans o4) (by decide)
   have m1:(psL 1048576 ks 0)*max mn 1≤1048576*16:=Int.mul_le_mul i3 (by omega) (by omega) (by decide)
   have m2:0≤(psL 1048576 ks 0)*max mn 1:=Int.mul_nonneg i2 (by omega)
   have m3:mx≠-1→(psL 1048576 ks 0)*mx≤1048576*16:=fun h=>Int.mul_le_mul i3 (by omega) (by omega) (by decide)
   have m4:mx≠-1→0≤(psL 1048576 ks 0)*mx:=fun h=>Int.mul_nonneg i2 (by omega)
   rw[rep]
   by_cases hm:mx=-1
   ·rw[zAz hm]
    exact zD27
   ·rw[zAy hm]
    have m5:=m3 hm
    have m6:=m4 hm
    exact zD27
  ·rw[zAy o4]
   repeat' first|(apply z05;first|refine z0n ?_| (apply z0a;refine z02 z16 rfl rfl ?_)|(apply z0c;refine z02 z0i rfl rfl ?_)|(apply z0t;refine z02 (zi9 z1h) rfl rfl ?_)|(apply z0s;first|refine z02 zcr rfl rfl ?_| refine z02 z84 rfl rfl ?_))|(apply z06;first|refine z0m ?_|apply z09)|(apply z07;first|apply z08|apply z00|apply z04|apply z01|refine z0h (fun _=>?_) (fun _=>?_)| refine z0o ?_)
   all_goals try omega
   refine z0e func136 _ z0p ⟨?_,rfl⟩
   rw[Int.min_eq_left i3]
theorem y5h:(∀(e:Rx) (d:Int),1≤d→d≤41→(sh e d).1≤200*(41-d)+1∧(sh e d).2.1≤41)∧∀(l:List Rx) (d:Int) (s:Sh3),1≤d→d≤41→s.1≤200*(42-d)+1→s.2.1≤41→(shL l d s).1≤200*(42-d)+1∧(shL l d s).2.1≤41:=by
 refine Rx.ind (fun op mn mx rs ks ih d h1 h2=>?_) (fun d s h1 h2 h3 h4=>⟨by rw[shL];exact h3,by rw[shL];exact h4⟩) fun k ks hk ih d s h1 h2 h3 h4=>?_
 ·rw[sh]
  split
  ·simp only;omega
  ·have:=ih (d+1) (1,d,vn (.mk op mn mx rs ks)) (by omega) (by omega) (by simp only;omega) (by simp only;omega)
   omega
 ·rw[shL]
  split
  ·exact⟨h3,h4⟩
  ·have:=hk d h1 h2
   exact ih d _ h1 h2 (by simp only;omega) (by simp only;omega)
abbrev shv(s:Sh3):PV:=.tup [I .i64 s.1,I .i64 s.2.1,B s.2.2]
theorem zxw:∀(e:Rx),fit e→∀d:Int,1≤d→d≤41→z0q prog 135 [.d (Drx e),I .i64 d] (shv (sh e d)):=by
 refine Rx.ind' fun op mn mx rs ks ih hfit d hd1 hd2=>?_
 obtain⟨hf1,hf2,hf3⟩:=hfit
 rw[z4d]
 refine z0y fun H=>?_
 refine z0g func135 (by kernel_rfl) rfl (by simp) ?_
 dsimp only[f135]
 rw[sh]
 by_cases h40:40<d
 ·rw[zAz h40]
  repeat' first|(apply z05;first|refine z0n ?_| (apply z0a;refine z02 z16 rfl rfl ?_)|(apply z0c;refine z02 z0i rfl rfl ?_)|(apply z0s;refine z02 (z0w rfl) rfl rfl ?_)|(apply z18;refine z0b z1m ?_))|(apply z06;first|refine z0m ?_|apply z09|refine z1g ?_| refine z7t rfl rfl (by decide) ?_|refine z1p (fun _=>?_) fun _=>?_)|(apply z07;first|apply z08|apply z00|apply z04|apply z01|apply z03|refine z0h (fun _=>?_) fun _=>?_)
  all_goals exact zD72
 rw[zAy h40]
 obtain⟨F,hF⟩:∃F,shL ks (d+1) (1,d,vn (.mk op mn mx rs ks))=F:=⟨_,rfl⟩
 rw[hF]
 repeat' first|(apply z05;first|refine z0n ?_| (apply z18;refine z0b z1m ?_))|(apply z06;first|refine z0m ?_|apply z09)|(apply z07;first|(refine zg1 (A:=.seq (.region 4 _ _) _) ?_)|apply z08|apply z00|apply z04|refine z0h (fun _=>?_) fun _=>?_)
 all_goals try omega
 refine ze1 (y5z (st0:=⟨164,[(1,I .i64 d),(2,.ptr (0,2) 0),(7,I .i64 1),(8,I .i64 d),(9,B (vn (.mk op mn mx rs ks)))],[(2,.box ((rx5 op mn mx rs ks).map .d))],H⟩) ?_ fun hj=>?_)
 ·repeat' (first|(apply z05;first|refine z0n ?_| (apply z0a;refine z02 z16 rfl rfl ?_)|(apply z0c;refine z02 z0i rfl rfl ?_)|(apply z0s;refine z02 (z0w rfl) rfl rfl ?_))|(apply z06;first|refine z0m ?_|apply z09)|(apply z07;first|apply z08|apply z00|apply z01))
  all_goals try omega
  refine z0r ?_
  refine z0d (z1o (fun q:Nat × Sh3=>⟨164,[(1,I .i64 d),(7,I .i64 q.2.1),(8,I .i64 q.2.2.1),(9,B q.2.2.2),(134,.d (.slice (ks.map rxc))),(135,I .i64 ks.length),(136,I .i64 (q.1:Nat))],[],H⟩)
   (fun q=>q.1≤ks.length∧shL (ks.drop q.1) (d+1) q.2=F∧1≤q.2.1∧q.2.1≤10000∧1≤q.2.2.1∧q.2.2.1≤41) (fun q=>ks.length-q.1) ?_ (0,1,d,vn (.mk op mn mx rs ks)) ⟨zAf _,hF,by simp only;omega,by simp only;omega,hd1,by simp only;omega⟩) rfl rfl
  rintro⟨i,m,c,b⟩ ⟨i1,i2,i3,i4,i5,i6⟩ ihl
  simp only at i1 i2 i3 i4 i5 i6 ihl⊢
  by_cases hlt:i<ks.length
  ·obtain⟨k,hk⟩:∃k,ks[i]? =some k:=⟨_,zA0 hlt⟩
   rw[drop_cons hk,shL]at i2
   by_cases hm:200<m
   ·rw[zAz hm]at i2
    subst i2
    obtain⟨op',mn',mx',rs',ks'⟩:=k
    repeat' first|(apply z05;first|refine z0n ?_| (apply z0a;first|refine z02 z1w rfl rfl ?_| refine z02 z1y rfl rfl ?_)|(apply z0k;refine z02 (z1a (ys:=ks.map rxc) rfl (z62 hk)) rfl rfl ?_)|(apply z0t;refine z02 (z0z z1h) rfl rfl ?_)|(apply z0f;refine z25 ?_)|(apply z0l;refine z0b z2e ?_))|(apply z06;first|refine z0m ?_|apply z09)|(apply z07;first|apply z08|apply z00|apply z04|apply z01|refine z0h (fun _=>?_) (fun _=>?_)| refine z0o ?_)
    all_goals exact zD72
   ·rw[zAy hm]at i2
    have hc:=ih k (zA2 hk) (z5z hf3 k (zA2 hk)) (d+1) (by omega) (by omega)
    have hbd:=y5h.1 k (d+1) (by omega) (by omega)
    have hmo:=zjr.1 k (d+1)
    generalize sh k (d+1)=S at *
    obtain⟨S1,S2,S3⟩:=S
    simp only at hbd hmo i2
    obtain⟨op',mn',mx',rs',ks'⟩:=k
    rw[z4d]at hc
    have ihl':=ihl (i+1,m+S1,max c S2,b&&S3) ⟨by simp only;omega,i2,by simp only;omega,by simp only;omega,by simp only;omega,by simp only;omega⟩ (by simp only;omega)
    cases b with
    | true =>
     rw[Bool.true_and]at ihl'
     repeat' first|(apply z05;first|refine z0n ?_| (apply z0a;first|refine z02 z1w rfl rfl ?_| refine z02 z1y rfl rfl ?_)|(apply z0k;refine z02 (z1a (ys:=ks.map rxc) rfl (z62 hk)) rfl rfl ?_)|(apply z0t;refine z02 (z0z z1h) rfl rfl ?_)|(apply z0s;refine z02 z84 rfl rfl ?_)|(apply z0j;refine z29 hc ?_)|(apply z0f;refine z25 ?_)|(apply z0l;refine z0b z2e ?_))|(apply z06;first|refine z0m ?_|apply z09)|(apply z07;first|apply z08|apply z00|apply z04|apply z01|apply z03|refine z0h (fun _=>?_) (fun _=>?_)| refine z0o ?_)
     all_goals try omega
     all_goals exact z0d ihl' rfl rfl
    | false =>
     rw[Bool.false_and]at ihl'
     repeat' first|(apply z05;first|refine z0n ?_| (apply z0a;first|refine z02 z1w rfl rfl ?_| refine z02 z1y rfl rfl ?_)|(apply z0k;refine z02 (z1a (ys:=ks.map rxc) rfl (z62 hk)) rfl rfl ?_)|(apply z0t;refine z02 (z0z z1h) rfl rfl ?_)|(apply z0s;refine z02 z84 rfl rfl ?_)|(apply z0j;refine z29 hc ?_)|(apply z0f;refine z25 ?_)|(apply z0l;refine z0b z2e ?_))|(apply z06;first|refine z0m ?_|apply z09|refine z1g ?_)|(apply z07;first|apply z08|apply z00|apply z04|apply z01|apply z03|refine z0h (fun _=>?_) (fun _=>?_)| refine z0o ?_)
     all_goals try omega
     all_goals exact z0d ihl' rfl rfl
  ·obtain rfl:i=ks.length:=by omega
   rw[zAs,shL]at i2
   subst i2
   repeat' first|(apply z05;refine z0n ?_)|(apply z06;first|refine z0m ?_|apply z09)|(apply z07;first|apply z08|apply z00|apply z04|apply z01|refine z0h (fun _=>?_) (fun _=>?_)| refine z0o ?_)
   all_goals exact zD72
 by_cases o1:op=1
 ·subst o1
  have hra:=zuo rs hf1
  repeat' first|(apply z05;first|refine z0n ?_| (apply z0a;refine z02 z16 rfl rfl ?_)|(apply z0c;refine z02 z0i rfl rfl ?_)|(apply z0s;refine z02 (z0w rfl) rfl rfl ?_)|(apply z0j;refine z29 hra ?_))|(apply z06;first|refine z0m ?_|apply z09|refine z1g ?_| refine z1p (fun _=>?_) fun _=>?_)|(apply z07;first|(refine zg1 (A:=.seq (.region 18 _ _) _) ?_)|apply z08|apply z00|refine z1j ?_| apply z01|apply z03)
  all_goals try omega
  all_goals refine ze1 (zmn 9 (vn (.mk 1 mn mx rs ks)) rfl (by rw[vn,zAz rfl];simp_all [-List.length_eq_zero_iff] <;> omega) ?_)
  all_goals exact z0d hj rfl rfl
 by_cases o23:op=2∨op=3
 ·repeat' (first|(apply z05;first|refine z0n ?_| (apply z0a;refine z02 z16 rfl rfl ?_)|(apply z0c;refine z02 z0i rfl rfl ?_)|(apply z0s;refine z02 (z0w rfl) rfl rfl ?_))|(apply z06;first|refine z0m ?_|apply z09|refine z1g ?_| refine z7t rfl rfl (by decide) ?_|refine z1p (fun _=>?_) fun _=>?_)|(apply z07;first|(refine zg1 (A:=.seq (.region 18 _ _) _) ?_)|apply z08|apply z00|apply z04|apply z01|apply z03|refine z0h (fun _=>?_) fun _=>?_))
  all_goals try omega
  all_goals refine zmn 9 (decide (mn=0)&&decide (mx=0)&&decide (rs.length=0)&&(if op=2 then !decide (ks.length=1)else decide (1<ks.length))) rfl (by rw[Bool.eq_iff_iff];rcases o23 with rfl|rfl <;> simp_all [-List.length_eq_zero_iff] <;> omega) ?_
  all_goals (
   obtain⟨b0,hb0⟩:∃b0,(decide (mn=0)&&decide (mx=0)&&decide (rs.length=0)&&(if op=2 then !decide (ks.length=1)else decide (1<ks.length)))=b0:=⟨_,rfl⟩
   have hvn:vn (.mk op mn mx rs ks)=(b0&&z73 op ks):=by
    rw[vn,←hb0]
    rcases o23 with rfl|rfl <;> simp
   rw[hb0]
   refine z0r ?_
   refine z0d (z1o (fun q:Nat=>⟨164,[(1,I .i64 d),(2,.ptr (0,2) 0),(7,I .i64 1),(8,I .i64 d),(9,B (b0&&z73 op (ks.take q))),(79,.d (.slice (ks.map rxc))),(80,I .i64 ks.length),(81,I .i64 (q:Nat))],[(2,.box ((rx5 op mn mx rs ks).map .d))],H⟩) (fun q=>q≤ks.length) (fun q=>ks.length-q) ?_ 0 (zAf _)) (by rw[List.take_zero];cases b0 <;> rfl) rfl
   intro q i1 ihq
   by_cases hlt:q<ks.length
   ·obtain⟨k,hk⟩:∃k,ks[q]? =some k:=⟨_,zA0 hlt⟩
    have hkt:=zef (op:=op) hk
    have ihq':=ihq (q+1) (by omega) (by omega)
    rw[hkt]at ihq'
    obtain⟨op',mn',mx',rs',ks'⟩:=k
    generalize z73 op (ks.take q)=bq at *
    change Run _ _ _ _ ⟨164,[(1,I .i64 d),(2,.ptr (0,2) 0),(7,I .i64 1),(8,I .i64 d),(9,B (b0&&(bq&&!decide (op'=op)))),(79,.d (.slice (ks.map rxc))),(80,I .i64 ks.length),(81,I .i64 ((q+1:Nat):Int))],[(2,.box ((rx5 op mn mx rs ks).map .d))],H⟩at ihq'
    rw[←Bool.and_assoc]at ihq'
    generalize (b0&&bq)=bb at *
    cases bb with
    | true =>
     rw[Bool.true_and]at ihq'
     repeat' first|(apply z05;first|refine z0n ?_| (apply z0a;first|refine z02 z16 rfl rfl ?_| refine z02 z1w rfl rfl ?_)|(apply z0c;refine z02 z0i rfl rfl ?_)|(apply z0k;refine z02 (z1a (ys:=ks.map rxc) rfl (z62 hk)) rfl rfl ?_)|(apply z0t;refine z02 (z0z z1h) rfl rfl ?_)|(apply z0s;refine z02 (z0w rfl) rfl rfl ?_)|(apply z0f;refine z25 ?_)|(apply z0l;refine z0b z2e ?_))|(apply z06;first|refine z0m ?_|apply z09)|(apply z07;first|apply z08|apply z00|apply z04|apply z01|apply z03|refine z0h (fun _=>?_) (fun _=>?_)| refine z0o ?_)
     all_goals try omega
     all_goals exact z0d ihq' rfl rfl
    | false =>
     rw[Bool.false_and]at ihq'
     repeat' first|(apply z05;first|refine z0n ?_| (apply z0a;first|refine z02 z16 rfl rfl ?_| refine z02 z1w rfl rfl ?_)|(apply z0c;refine z02 z0i rfl rfl ?_)|(apply z0k;refine z02 (z1a (ys:=ks.map rxc) rfl (z62 hk)) rfl rfl ?_)|(apply z0t;refine z02 (z0z z1h) rfl rfl ?_)|(apply z0s;refine z02 (z0w rfl) rfl rfl ?_)|(apply z0f;refine z25 ?_)|(apply z0l;refine z0b z2e ?_))|(apply z06;first|refine z0m ?_|apply z09|refine z1g ?_)|(apply z07;first|apply z08|apply z00|apply z04|apply z01|apply z03|refine z0h (fun _=>?_) (fun _=>?_)| refine z0o ?_)
     all_goals try omega
     all_goals exact z0d ihq' rfl rfl
   ·obtain rfl:q=ks.length:=by omega
    rw[List.take_length,←hvn]
    clear ihq
    repeat' first|(apply z05;refine z0n ?_)|(apply z06;first|refine z0m ?_|apply z09)|(apply z07;first|(refine zg1 (A:=.seq (.region 18 _ _) _) ?_)|apply z08|apply z00|apply z04|apply z01|apply z03|refine z0h (fun _=>?_) (fun _=>?_)| refine z0o ?_)
    all_goals try omega
    all_goals exact ze1 (z0d hj rfl rfl)
   )
 by_cases o4:op=4
 ·subst o4
  repeat' first|(apply z05;first|refine z0n ?_| (apply z0a;refine z02 z16 rfl rfl ?_)|(apply z0c;refine z02 z0i rfl rfl ?_)|(apply z0s;refine z02 (z0w rfl) rfl rfl ?_))|(apply z06;first|refine z0m ?_|apply z09|refine z1g ?_| refine z7t rfl rfl (by decide) ?_|refine z1p (fun _=>?_) fun _=>?_)|(apply z07;first|(refine zg1 (A:=.seq (.region 18 _ _) _) ?_)|apply z08|apply z00|refine z1j ?_| refine z15 ?_| apply z01|apply z03)
  all_goals try omega
  all_goals refine ze1 (zmn 9 (vn (.mk 4 mn mx rs ks)) rfl (by rw[vn,zAy (by decide),zAy (by decide),zAy (by decide),zAz rfl];simp_all [-List.length_eq_zero_iff] <;> omega) ?_)
  all_goals exact z0d hj rfl rfl
 ·have hvn:vn (.mk op mn mx rs ks)=false:=by rw[vn,zAy o1,zAy (by omega),zAy (by omega),zAy o4]
  repeat' first|(apply z05;first|refine z0n ?_| (apply z0a;refine z02 z16 rfl rfl ?_)|(apply z0c;refine z02 z0i rfl rfl ?_)|(apply z0s;refine z02 (z0w rfl) rfl rfl ?_))|(apply z06;first|refine z0m ?_|apply z09|refine z1g ?_| refine z7t rfl rfl (by decide) ?_|refine z1p (fun _=>?_) fun _=>?_)|(apply z07;first|(refine zg1 (A:=.seq (.region 18 _ _) _) ?_)|apply z08|apply z00|apply z04|apply z01|apply z03|refine z0h (fun _=>?_) fun _=>?_)
  all_goals try omega
  all_goals refine ze1 (zmn 9 (vn (.mk op mn mx rs ks)) rfl (by rw[hvn]) ?_)
  all_goals exact z0d hj rfl rfl
end Go.Proofs.YtonhfccmeammbaaGreatDoor
