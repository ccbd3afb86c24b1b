/- A part. -/
import Derived.Test.YtonhfccmeammbaaGreatDoorVt
set_option linter.all false
open Go.Proofs.Tryz
namespace Go.Proofs.YtonhfccmeammbaaGreatDoor
open Go.Ab Go.Rx
set_option maxHeartbeats 20000000
set_option maxRecDepth 100000
attribute [local irreducible] Run Ops Op1 z1z Val Tr z0q z1v NF Rel z5c z5d
abbrev cnt(n:Int):Blk:=.box [I .i64 n]
theorem y52(e:Rx)(d n:Int)(hd:1≤d)(h0:0≤n)(h1:n≤200)(h:(sm e d n).1=true):0≤(sm e d n).2∧(sm e d n).2≤200:=by
 have:=zs6.1 e d n hd h0 h1
 split at this
 ·rw[this];simp only;omega
 ·rw[this]at h;cases h
theorem zve{ks:List Rx}{i:Nat}{k:Rx}(h:ks[i]? =some k)(d n:Int):smL (ks.drop i) d n=if(sm k d n).1=true then smL (ks.drop (i+1)) d (sm k d n).2 else(false,(sm k d n).2):=by
 rw[drop_cons h,smL]
theorem y04(X:Nat):∀(e:Rx),fit e→∀(d n:Int) (e0:Nat),1≤d→d≤100→0≤n→n≤200→z1v prog 148 [.d (Drx e),I .i64 d,.ptr (e0,X) 0] [((e0,X),cnt n)] [((e0,X),cnt (sm e d n).2)] (B (sm e d n).1):=by
 refine Rx.ind' fun op mn mx rs ks ih hfit d n e0 hd hd1 h0 h1=>?_
 obtain⟨hf1,hf2,hf3⟩:=hfit
 refine z2a fun H hH=>?_
 have hX:H e0 X=some (cnt n):=hH ((e0,X),cnt n) (by simp)
 refine z0g func148 (by kernel_rfl) rfl (by simp) ?_
 rw[Drx,z3i,sm]
 dsimp only[f148]
 by_cases hb:smB d (n+1)=true
 ·rw[zAz hb]
  have hb':=hb
  simp only[smB,zAu,zA3]at hb'
  repeat' first|(apply z05;first|refine z0n ?_| (apply z0a;first|refine z02 (z16 (b:=cnt (n+1))) rfl (bkN (z3w H (e0,X) (cnt (n+1)))) ?_| refine z02 (z16 (b:=cnt n)) rfl (bkN hX) ?_| refine z02 z16 rfl rfl ?_)|(apply z0c;refine z02 z0i rfl rfl ?_)|(apply z0t;refine z02 (z0z z1h) rfl rfl ?_)|(apply z0s;refine z02 (z0w rfl) rfl rfl ?_)|(apply z0f;refine z5k (raw:=cnt n) (raw':=cnt (n+1)) rfl hX rfl rfl rfl rfl rfl rfl ?_)|(apply z18;refine z0b z43 ?_))|(apply z06;first|refine z0m ?_|apply z09|refine z1g ?_| refine z1p (fun _=>?_) fun _=>?_)|(apply z07;first|apply z08|apply z00|refine z1j ?_| apply z04|apply z01|refine z0h (fun _=>?_) fun _=>?_)
  all_goals try omega
  all_goals exact z0e func148 _ z0p ⟨rfl,rfl⟩
 ·rw[zAy hb]
  have hb':=hb
  simp only[smB,zAu,zA3,not_or]at hb'
  repeat' first|(apply z05;first|refine z0n ?_| (apply z0a;first|refine z02 (z16 (b:=cnt (n+1))) rfl (bkN (z3w H (e0,X) (cnt (n+1)))) ?_| refine z02 (z16 (b:=cnt n)) rfl (bkN hX) ?_| refine z02 z16 rfl rfl ?_)|(apply z0c;refine z02 z0i rfl rfl ?_)|(apply z0t;refine z02 (z0z z1h) rfl rfl ?_)|(apply z0s;refine z02 (z0w rfl) rfl rfl ?_)|(apply z0f;refine z5k (raw:=cnt n) (raw':=cnt (n+1)) rfl hX rfl rfl rfl rfl rfl rfl ?_)|(apply z18;refine z0b z43 ?_))|(apply z06;first|refine z0m ?_|apply z09|refine z1g ?_| refine z1p (fun _=>?_) fun _=>?_)|(apply z07;first|apply z08|apply z00|refine z1j ?_| apply z04|apply z01|refine z0h (fun _=>?_) fun _=>?_)
  all_goals try omega
  refine z0r ?_
  refine z0d (z1o (fun q:Nat × Int=>⟨36,[(1,I .i64 d),(2,.ptr (e0+1,X) 0),(23,.d (.slice (ks.map rxc))),(24,I .i64 ks.length),(25,I .i64 (q.1:Nat))],[],upd H (e0,X) (cnt q.2)⟩) (fun q=>q.1≤ks.length∧0≤q.2∧q.2≤200∧smL (ks.drop q.1) (d+1) q.2=smL ks (d+1) (n+1)) (fun q=>ks.length-q.1) ?_ (0,n+1) ⟨zAf _,by simp only;omega,by simp only;omega,rfl⟩) rfl rfl
  rintro⟨i,m⟩ ⟨i1,i2,i3,i4⟩ ihl
  simp only at i1 i2 i3 i4 ihl⊢
  by_cases hlt:i<ks.length
  ·obtain⟨k,hk⟩:∃k,ks[i]? =some k:=⟨_,zA0 hlt⟩
   rw[zve hk]at i4
   have c:=ih k (zA2 hk) (z5z hf3 k (zA2 hk)) (d+1) m (e0+1) (by omega) (by omega) i2 i3
   have hle:=y52 k (d+1) m (by omega) i2 i3
   generalize sm k (d+1) m=r at c i4 hle
   obtain⟨rb,rn⟩:=r
   simp only at c i4 hle
   obtain⟨op',mn',mx',rs',ks'⟩:=k
   have hk':=z62 hk
   rw[Drx,z3i]at c
   cases rb with
   | true =>
    obtain⟨hle1,hle2⟩:=hle rfl
    rw[zAz rfl]at i4
    repeat' first|(apply z05;first|refine z0n ?_| (apply z0a;first|refine z02 z1w rfl rfl ?_| refine z02 z1y rfl rfl ?_)|(apply z0k;refine z02 (z1a (ys:=ks.map rxc) rfl hk') rfl rfl ?_)|(apply z0t;refine z02 (z0z z1h) rfl rfl ?_)|(apply z0j;refine zs0 c rfl (z3w H (e0,X) (cnt m)) (by decide) ?_)|(apply z0f;refine z25 ?_)|(apply z0l;refine z0b z2e ?_))|(apply z06;first|refine z0m ?_|apply z09)|(apply z07;first|apply z08|apply z00|refine z15 ?_| apply z04|apply z01|apply z03|refine z0h (fun _=>?_) (fun _=>?_)| refine z0o ?_)
    all_goals try omega
    rw[z3l]
    exact z0d (ihl (i+1,rn) ⟨by simp only;omega,hle1,hle2,i4⟩ (by simp only;omega)) rfl rfl
   | false =>
    rw[zAy (by simp)]at i4
    rw[←i4]
    repeat' first|(apply z05;first|refine z0n ?_| (apply z0a;first|refine z02 z1w rfl rfl ?_| refine z02 z1y rfl rfl ?_)|(apply z0k;refine z02 (z1a (ys:=ks.map rxc) rfl hk') rfl rfl ?_)|(apply z0t;refine z02 (z0z z1h) rfl rfl ?_)|(apply z0j;refine zs0 c rfl (z3w H (e0,X) (cnt m)) (by decide) ?_)|(apply z0f;refine z25 ?_)|(apply z0l;refine z0b z2e ?_))|(apply z06;first|refine z0m ?_|apply z09)|(apply z07;first|apply z08|apply z00|refine z1j ?_| apply z04|apply z01|refine z0h (fun _=>?_) (fun _=>?_)| refine z0o ?_)
    all_goals try omega
    refine z0e func148 _ z0p ⟨rfl,?_⟩
    exact z3l _ _ _ _
  ·obtain rfl:i=ks.length:=by omega
   rw[zAs,smL]at i4
   rw[←i4]
   repeat' first|(apply z05;refine z0n ?_)|(apply z06;first|refine z0m ?_|apply z09)|(apply z07;first|apply z08|apply z00|apply z04|apply z01|refine z0h (fun _=>?_) (fun _=>?_)| refine z0o ?_)
   all_goals try omega
   exact z0e func148 _ z0p ⟨rfl,rfl⟩
theorem zfw{l:List Rg}{i:Nat}{r:Rg}(h:l[i]? =some r)(a:Int):zdr a (l.drop i)=(decide (a≤r.1)&&decide (r.1≤r.2)&&decide (r.2≤1114111)&&zdr (r.2+2) (l.drop (i+1))):=by
 rw[drop_cons h,zdr]
def prv(l:List Rg)(i:Nat)(a:Int):Prop:=(i=0∧a=0)∨(0<i∧∃p,l[i-1]? =some p∧a=p.2+2∧0≤p.2∧p.2≤1114111)
theorem zoc(l:List Rg)(hl:l.length≤9223372036854775807):z0q prog 187 [.d (rgs l)] (B (zpq l)):=by
 refine z0y fun H=>?_
 refine z0g func187 (by kernel_rfl) rfl (by simp) ?_
 dsimp only[f187]
 repeat' first|(apply z05;first|refine z0n ?_| (apply z0s;refine z02 (z0w rfl) rfl rfl ?_))|(apply z06;first|refine z0m ?_|apply z09)|(apply z07;first|apply z08|apply z00|apply z01)
 all_goals try omega
 refine z0r ?_
 refine z0d (z1o (fun q:Nat × Int=>⟨47,[(0,.d (rgs l)),(5,.d (rgs l)),(6,I .i64 l.length),(7,I .i64 (q.1:Nat))],[],H⟩) (fun q=>q.1≤l.length∧prv l q.1 q.2∧zdr q.2 (l.drop q.1)=zdr 0 l) (fun q=>l.length-q.1) ?_ (0,0) ⟨zAf _,.inl ⟨rfl,rfl⟩,rfl⟩) rfl rfl
 rintro⟨i,a⟩ ⟨i1,i2,i3⟩ ih
 simp only at i1 i2 i3 ih⊢
 by_cases hlt:i<l.length
 ·obtain⟨r,hr⟩:∃r,l[i]? =some r:=⟨_,zA0 hlt⟩
  rw[zfw hr]at i3
  by_cases hgd:a≤r.1∧r.1≤r.2∧r.2≤1114111
  ·exact zD5
  ·have hb:zpq l=false:=by
    exact zD58
   rw[hb]
   rcases i2 with⟨rfl,rfl⟩|⟨hi,p,hp,rfl,hp0,hp1⟩
   ·repeat' (first|(apply z05;first|refine z0n ?_| (apply z0a;refine z02 z1w rfl rfl ?_)|(apply z0k;refine z02 (z1a (ys:=l.map rgc) rfl (idx hr)) rfl rfl ?_)|(apply z0t;refine z02 (z0z z1h) rfl rfl ?_)|(apply z0s;refine z02 (z0w rfl) rfl rfl ?_)|(apply z0f;refine z25 ?_)|(apply z0l;refine z0b z2e ?_))|(apply z06;first|refine z0m ?_|apply z09)|(apply z07;first|apply z08|apply z00|refine z1j ?_| refine z15 ?_| apply z04|apply z01|apply z2o|apply z03|refine z0h (fun _=>?_) (fun _=>?_)| refine z0o ?_)|(apply z2m;first|(apply z1e;refine z2c mix ?_)|refine z6d rfl rfl (by decide) ?_|refine z86 rfl rfl (by decide) ?_|refine z2w ?_| (apply z0v;refine z0x z16 rfl rfl ?_)|(apply z0u;refine z0x z0i rfl rfl ?_)|(refine z4h rfl rfl (fun hg=>?_) (fun hg=>?_) <;> simp only[hg] <;> (try simp only[zA3,zA5,zA6,zA8]at hg))))
    all_goals try omega
    all_goals exact z0e func187 _ z0p ⟨rfl,rfl⟩
   ·have hp':l[((i:Int)-1).toNat]? =some p:=by rw[←hp];congr 1;omega
    repeat' first|(apply z05;first|refine z0n ?_| (apply z0a;refine z02 z1w rfl rfl ?_)|(apply z0k;refine z02 (z1a (ys:=l.map rgc) rfl (idx hr)) rfl rfl ?_)|(apply z0t;refine z02 (z0z z1h) rfl rfl ?_)|(apply z0s;refine z02 (z0w rfl) rfl rfl ?_)|(apply z0f;refine z25 ?_)|(apply z0l;refine z0b z2e ?_))|(apply z06;first|refine z0m ?_|apply z09)|(apply z07;first|apply z08|apply z00|refine z1j ?_| refine z15 ?_| apply z04|apply z01|apply z2o|apply z03|refine z0h (fun _=>?_) (fun _=>?_)| refine z0o ?_)|(apply z2m;first|(apply z1e;refine z2c mix ?_)|refine z6d rfl rfl (by decide) ?_|refine z86 rfl rfl (by decide) ?_|refine z2w ?_| (apply z0v;first|refine z0x z16 rfl rfl ?_| refine z0x z2f rfl rfl ?_)|(apply z0u;first|refine z0x z0i rfl rfl ?_| refine z0x (z5o rfl rfl) rfl rfl ?_)|(apply z1i;refine z0x (z1a (ys:=l.map rgc) rfl (z6h hp')) rfl rfl ?_)|(apply z3p;first|refine z0x (z0z (zo4 (by omega) (by omega))) rfl rfl ?_| refine z0x (z2l z1h) rfl rfl ?_)|(refine z4h rfl rfl (fun hg=>?_) (fun hg=>?_) <;> simp only[hg] <;> (try simp only[zA3,zA5,zA6,zA8]at hg)))
    all_goals try omega
    all_goals exact z0e func187 _ z0p ⟨rfl,rfl⟩
 ·obtain rfl:i=l.length:=by omega
  rw[zAs,zdr]at i3
  rw[zpq,←i3,Bool.true_and]
  repeat' first|(apply z05;first|refine z0n ?_| (apply z0s;refine z02 (z0w rfl) rfl rfl ?_))|(apply z06;first|refine z0m ?_|apply z09)|(apply z07;first|apply z08|apply z00|apply z04|apply z01|refine z0h (fun _=>?_) (fun _=>?_)| refine z0o ?_)
  all_goals try omega
  refine z0e func187 _ z0p ⟨?_,rfl⟩
  congr 3;simp
theorem zef{op:Int}{ks:List Rx}{i:Nat}{k:Rx}(h:ks[i]? =some k):z73 op (ks.take (i+1))=(z73 op (ks.take i)&&!decide (k.op=op)):=by
 rw[z7x h,z73,List.all_append];simp[z73]
theorem zfe{op:Int}{ks:List Rx}{i:Nat}{k:Rx}(h:ks[i]? =some k)(hk:k.op=op):z73 op ks=false:=by
 rw[Bool.eq_false_iff]
 intro h2
 have:=List.all_eq_true.1 h2 k (zA2 h)
 rw[hk]at this;simp at this
theorem zt9{op mn mx:Int}{rs:List Rg}{ks:List Rx}(h:(op≠1∧0<rs.length)∨(op≠4∧(mn≠0∨mx≠0))):vn (.mk op mn mx rs ks)=false:=by
 rw[Bool.eq_false_iff]
 intro h2
 rcases z7a h2 with⟨rfl,rfl,rfl,rfl,_⟩|⟨rfl,rfl,rfl,rfl,_⟩|⟨rfl,rfl,rfl,rfl,_⟩|⟨rfl,rfl,_⟩ <;> simp at h <;> omega
theorem y44{op mn mx:Int}{rs:List Rg}{ks:List Rx}{i:Nat}{k:Rx}(hk:ks[i]? =some k)(h:k.op=op)(h4:op≠4):vn (.mk op mn mx rs ks)=false:=by
 rw[Bool.eq_false_iff]
 intro h2
 rcases z7a h2 with⟨rfl,rfl,rfl,rfl,_⟩|⟨rfl,rfl,rfl,rfl,_,h3⟩|⟨rfl,rfl,rfl,rfl,_,h3⟩|⟨rfl,_⟩
 ·simp at hk
 ·rw[zfe hk h]at h3;cases h3
 ·rw[zfe hk h]at h3;cases h3
 ·exact h4 rfl
theorem zxc{op mn mx:Int}{rs:List Rg}{ks:List Rx}(he:¬((op≠1∧0<rs.length)∨(op≠4∧(mn≠0∨mx≠0))))(h:op=4∨z73 op ks=true):vn (.mk op mn mx rs ks) =
 if op=1 then decide (ks.length=0)&&zpq rs else if op=2 then !decide (ks.length=1)else if op=3 then decide (1<ks.length)
 else if op=4 then decide (ks.length=1)&&decide (0≤mn)&&decide (mn≤16)&&(decide (mx=-1)||(decide (mn≤mx)&&decide (mx≤16)))else false:=by
 rw[vn]
 have hrs:op≠1→rs.length=0:=by omega
 by_cases o4:op=4
 ·subst o4;simp[hrs]
 have hk:=h.resolve_left o4
 have hmn:mn=0:=by omega
 have hmx:mx=0:=by omega
 subst hmn hmx
 by_cases o1:op=1
 ·subst o1;simp
 have:=hrs o1
 simp[o1,o4,hk,this]
theorem zkh(op mn mx:Int)(rs:List Rg)(ks:List Rx)(hr:rs.length≤9223372036854775807)(hk:ks.length≤9223372036854775807):z0q prog 170 [.d (.agg (rx5 op mn mx rs ks))] (B (vn (.mk op mn mx rs ks))):=by
 refine z0y fun H=>?_
 refine z0g func170 (by kernel_rfl) rfl (by simp) ?_
 dsimp only[f170]
 by_cases he:(op≠1∧0<rs.length)∨(op≠4∧(mn≠0∨mx≠0))
 ·rw[zt9 he]
  repeat' first|(apply z05;first|refine z0n ?_| (apply z0a;refine z02 z16 rfl rfl ?_)|(apply z0c;refine z02 z0i rfl rfl ?_)|(apply z0s;refine z02 (z0w rfl) rfl rfl ?_)|(apply z18;refine z0b z43 ?_))|(apply z06;first|refine z0m ?_|apply z09|refine z1g ?_| refine z7t rfl rfl (by decide) ?_|refine z1p (fun _=>?_) (fun _=>?_)| refine z39 rfl rfl (fun _=>?_) fun _=>?_)|(apply z07;first|apply z08|apply z00|refine z1j ?_| refine z15 ?_| apply z04|apply z01|refine z38 rfl (fun _=>?_) fun _=>?_)
  all_goals try omega
  all_goals exact z0e func170 _ z0p ⟨rfl,rfl⟩
 repeat' first|(apply z05;first|refine z0n ?_| (apply z0a;refine z02 z16 rfl rfl ?_)|(apply z0c;refine z02 z0i rfl rfl ?_)|(apply z0s;refine z02 (z0w rfl) rfl rfl ?_)|(apply z18;refine z0b z43 ?_))|(apply z06;first|refine z0m ?_|apply z09|refine z1g ?_| refine z7t rfl rfl (by decide) ?_|refine z1p (fun _=>?_) (fun _=>?_)| refine z39 rfl rfl (fun _=>?_) fun _=>?_)|(apply z07;first|apply z08|apply z00|refine z1j ?_| refine z15 ?_| apply z04|apply z01|refine z38 rfl (fun _=>?_) fun _=>?_)
 all_goals try omega
 all_goals (
  refine z0r ?_
  refine z0d (z1o (fun i:Nat=>⟨101,[(1,.ptr (0,1) 0),(3,I .i64 ks.length),(34,.d (.slice (ks.map rxc))),(35,I .i64 ks.length),(36,I .i64 (i:Nat))],[(1,.box ((rx5 op mn mx rs ks).map .d))],H⟩) (fun i=>i≤ks.length∧(op=4∨z73 op (ks.take i)=true)) (fun i=>ks.length-i) ?_ 0 ⟨zAf _,.inr rfl⟩) rfl rfl
  rintro i ⟨i1,i2⟩ ihl
  by_cases hlt:i<ks.length
  ·obtain⟨k,hk2⟩:∃k,ks[i]? =some k:=⟨_,zA0 hlt⟩
   obtain⟨op',mn',mx',rs',ks'⟩:=k
   have hk':=z62 hk2
   have hkt:=zef (op:=op) hk2
   by_cases hbad:op'=op∧op≠4
   ·rw[y44 hk2 hbad.1 hbad.2]
    repeat' first|(apply z05;first|refine z0n ?_| (apply z0a;first|refine z02 z16 rfl rfl ?_| refine z02 z1w rfl rfl ?_)|(apply z0c;refine z02 z0i rfl rfl ?_)|(apply z0k;refine z02 (z1a (ys:=ks.map rxc) rfl hk') rfl rfl ?_)|(apply z0t;refine z02 (z0z z1h) rfl rfl ?_)|(apply z0f;refine z25 ?_)|(apply z0l;refine z0b z2e ?_))|(apply z06;first|refine z0m ?_|apply z09|refine z1g ?_| refine z7t rfl rfl (by decide) ?_|refine z1p (fun _=>?_) fun _=>?_)|(apply z07;first|apply z08|apply z00|refine z15 ?_| apply z04|apply z01|apply z03|refine z0h (fun _=>?_) (fun _=>?_)| refine z38 rfl (fun _=>?_) (fun _=>?_)|refine z0o ?_)
    all_goals try omega
    all_goals exact z0e func170 _ z0p ⟨rfl,rfl⟩
   ·repeat' (first|(apply z05;first|refine z0n ?_| (apply z0a;first|refine z02 z16 rfl rfl ?_| refine z02 z1w rfl rfl ?_)|(apply z0c;refine z02 z0i rfl rfl ?_)|(apply z0k;refine z02 (z1a (ys:=ks.map rxc) rfl hk') rfl rfl ?_)|(apply z0t;refine z02 (z0z z1h) rfl rfl ?_)|(apply z0f;refine z25 ?_)|(apply z0l;refine z0b z2e ?_))|(apply z06;first|refine z0m ?_|apply z09|refine z1g ?_| refine z7t rfl rfl (by decide) ?_|refine z1p (fun _=>?_) fun _=>?_)|(apply z07;first|apply z08|apply z00|refine z15 ?_| apply z04|apply z01|apply z03|refine z0h (fun _=>?_) (fun _=>?_)| refine z38 rfl (fun _=>?_) (fun _=>?_)|refine z0o ?_))
    all_goals try omega
    all_goals exact z0d (ihl (i+1) ⟨by omega,by
     by_cases h4:op=4
     ·exact .inl h4
     ·rw[hkt,i2.resolve_left h4,Bool.true_and,zA6,zA5]
      exact .inr fun h2=>hbad ⟨h2,h4⟩⟩ (by omega)) rfl rfl
  ·obtain rfl:i=ks.length:=by omega
   rw[List.take_length]at i2
   have cv:=zoc rs hr
   clear ihl
   have hvl:=zxc he i2
   by_cases o1:op=1
   ·subst o1
    repeat' first|(apply z05;first|refine z0n ?_| (apply z0a;refine z02 z16 rfl rfl ?_)|(apply z0c;refine z02 z0i rfl rfl ?_)|(apply z0j;refine z29 cv ?_))|(apply z06;first|refine z0m ?_|apply z09|refine z1g ?_| refine z1p (fun _=>?_) fun _=>?_)|(apply z07;first|apply z08|apply z00|refine z1j ?_| apply z04|apply z01|refine z0h (fun _=>?_) (fun _=>?_)| refine z0o ?_)
    all_goals exact zD106
   by_cases o2:op=2
   ·subst o2
    all_goals exact zD33
   by_cases o3:op=3
   ·subst o3
    all_goals exact zD33
   by_cases o4:op=4
   ·subst o4
    repeat' first|(apply z05;first|refine z0n ?_| (apply z0a;refine z02 z16 rfl rfl ?_)|(apply z0c;refine z02 z0i rfl rfl ?_))|(apply z06;first|refine z0m ?_|apply z09|refine z1g ?_| refine z7t rfl rfl (by decide) ?_|refine z1p (fun _=>?_) fun _=>?_)|(apply z07;first|apply z08|apply z00|refine z1j ?_| refine z15 ?_| apply z04|apply z01|refine z0h (fun _=>?_) (fun _=>?_)| refine z0o ?_)
    all_goals exact zD106
   ·repeat' (first|(apply z05;first|refine z0n ?_| (apply z0a;refine z02 z16 rfl rfl ?_)|(apply z0c;refine z02 z0i rfl rfl ?_))|(apply z06;first|refine z0m ?_|apply z09|refine z1g ?_| refine z7t rfl rfl (by decide) ?_|refine z1p (fun _=>?_) fun _=>?_)|(apply z07;first|apply z08|apply z00|apply z04|apply z01|apply z03|refine z0h (fun _=>?_) (fun _=>?_)| refine z0o ?_))
    all_goals try omega
    all_goals (refine z0e func170 _ z0p ⟨?_,rfl⟩;rw[hvl];simp_all <;> omega))
theorem zrn{ks:List Rx}{i:Nat}{k:Rx}(h:ks[i]? =some k):zee (ks.drop i)=(vns k&&zee (ks.drop (i+1))):=by rw[drop_cons h,zee]
theorem zjg:∀(e:Rx),fit e→z0q prog 149 [.d (Drx e)] (B (vns e)):=by
 refine Rx.ind' fun op mn mx rs ks ih hfit=>?_
 obtain⟨hf1,hf2,hf3⟩:=hfit
 refine z0y fun H=>?_
 refine z0g func149 (by kernel_rfl) rfl (by simp) ?_
 rw[Drx,z3i,vns]
 dsimp only[f149]
 have cv:=zkh op mn mx rs ks hf1 hf2
 cases hv:vn (.mk op mn mx rs ks)with
 | false =>
  rw[hv]at cv
  repeat' first|(apply z05;first|refine z0n ?_| (apply z0a;refine z02 z1r rfl rfl ?_)|(apply z0j;refine z29 cv ?_)|(apply z18;refine z0b z43 ?_))|(apply z06;first|refine z0m ?_|apply z09)|(apply z07;first|apply z08|apply z00|refine z1j ?_)
  all_goals try omega
  exact z0e func149 _ z0p ⟨rfl,rfl⟩
 | true =>
  rw[hv]at cv
  rw[Bool.true_and]
  repeat' first|(apply z05;first|refine z0n ?_| (apply z0a;first|refine z02 z1r rfl rfl ?_| refine z02 z16 rfl rfl ?_)|(apply z0c;refine z02 z0i rfl rfl ?_)|(apply z0s;refine z02 (z0w rfl) rfl rfl ?_)|(apply z0j;refine z29 cv ?_)|(apply z18;refine z0b z43 ?_))|(apply z06;first|refine z0m ?_|apply z09)|(apply z07;first|apply z08|apply z00|refine z15 ?_| apply z04|apply z01)
  all_goals try omega
  refine z0r ?_
  refine z0d (z1o (fun i:Nat=>⟨19,[(9,.d (.slice (ks.map rxc))),(10,I .i64 ks.length),(11,I .i64 (i:Nat))],[],H⟩) (fun i=>i≤ks.length∧zee (ks.drop i)=zee ks) (fun i=>ks.length-i) ?_ 0 ⟨zAf _,rfl⟩) rfl rfl
  rintro i ⟨i1,i2⟩ ihl
  by_cases hlt:i<ks.length
  ·obtain⟨k,hk⟩:∃k,ks[i]? =some k:=⟨_,zA0 hlt⟩
   have c:=ih k (zA2 hk) (z5z hf3 k (zA2 hk))
   rw[zrn hk]at i2
   cases hvk:vns k with
   | true =>
    rw[hvk]at c i2
    rw[Bool.true_and]at i2
    obtain⟨op',mn',mx',rs',ks'⟩:=k
    have hk':=z62 hk
    rw[Drx,z3i]at c
    repeat' first|(apply z05;first|refine z0n ?_| (apply z0a;first|refine z02 z1w rfl rfl ?_| refine z02 z1y rfl rfl ?_)|(apply z0k;refine z02 (z1a (ys:=ks.map rxc) rfl hk') rfl rfl ?_)|(apply z0t;refine z02 (z0z z1h) rfl rfl ?_)|(apply z0j;refine z29 c ?_)|(apply z0f;refine z25 ?_)|(apply z0l;refine z0b z2e ?_))|(apply z06;first|refine z0m ?_|apply z09)|(apply z07;first|apply z08|apply z00|refine z15 ?_| apply z04|apply z01|apply z03|refine z0h (fun _=>?_) (fun _=>?_)| refine z0o ?_)
    all_goals try omega
    exact z0d (ihl (i+1) ⟨by omega,i2⟩ (by omega)) rfl rfl
   | false =>
    rw[hvk]at c i2
    rw[Bool.false_and]at i2
    obtain⟨op',mn',mx',rs',ks'⟩:=k
    have hk':=z62 hk
    rw[Drx,z3i]at c
    repeat' first|(apply z05;first|refine z0n ?_| (apply z0a;first|refine z02 z1w rfl rfl ?_| refine z02 z1y rfl rfl ?_)|(apply z0k;refine z02 (z1a (ys:=ks.map rxc) rfl hk') rfl rfl ?_)|(apply z0j;refine z29 c ?_)|(apply z0f;refine z25 ?_)|(apply z0l;refine z0b z2e ?_))|(apply z06;first|refine z0m ?_|apply z09)|(apply z07;first|apply z08|apply z00|refine z1j ?_| apply z04|apply z01|refine z0h (fun _=>?_) (fun _=>?_)| refine z0o ?_)
    all_goals try omega
    refine z0e func149 _ z0p ⟨?_,rfl⟩
    rw[←i2]
  ·obtain rfl:i=ks.length:=by omega
   rw[zAs,zee]at i2
   repeat' first|(apply z05;refine z0n ?_)|(apply z06;first|refine z0m ?_|apply z09)|(apply z07;first|apply z08|apply z00|apply z04|apply z01|refine z0h (fun _=>?_) (fun _=>?_)| refine z0o ?_)
   all_goals try omega
   refine z0e func149 _ z0p ⟨?_,rfl⟩
   rw[←i2]
theorem zx8{C:Int}(hC:1≤C)(e:Rx)(h:vns e=true):0≤ps C e∧ps C e≤C:=by
 rw[(y07 hC).1 e h]
 have:=zeu.1 e h
 omega
theorem zmq{C:Int}{ks:List Rx}{i:Nat}{k:Rx}(h:ks[i]? =some k)(n:Int):psL C (ks.drop i) n=psL C (ks.drop (i+1)) (min (n+ps C k) C):=by rw[drop_cons h,psL]
theorem zjz:∀(e:Rx),fit e→vns e=true→z0q prog 150 [.d (Drx e)] (I .i64 (ps 65 e)):=by
 refine Rx.ind' fun op mn mx rs ks ih hfit hv=>?_
 obtain⟨hf1,hf2,hf3⟩:=hfit
 rw[vns,zA7]at hv
 refine z0y fun H=>?_
 refine z0g func150 (by kernel_rfl) rfl (by simp) ?_
 rw[Drx,z3i,ps]
 dsimp only[f150]
 by_cases o1:op=1
 ·rw[zAz o1]
  repeat' first|(apply z05;first|refine z0n ?_| (apply z0a;refine z02 z16 rfl rfl ?_)|(apply z0c;refine z02 z0i rfl rfl ?_)|(apply z0s;refine z02 (z0w rfl) rfl rfl ?_)|(apply z18;refine z0b z43 ?_))|(apply z06;first|refine z0m ?_|apply z09)|(apply z07;first|apply z08|apply z00|apply z04|apply z01|refine z0h (fun _=>?_) fun _=>?_)
  all_goals try omega
  exact z0e func150 _ z0p ⟨rfl,rfl⟩
 rw[zAy o1]
 repeat' first|(apply z05;first|refine z0n ?_| (apply z0a;refine z02 z16 rfl rfl ?_)|(apply z0c;refine z02 z0i rfl rfl ?_)|(apply z0s;refine z02 (z0w rfl) rfl rfl ?_)|(apply z18;refine z0b z43 ?_))|(apply z06;first|refine z0m ?_|apply z09)|(apply z07;first|apply z08|apply z00|apply z04|apply z01|refine z0h (fun _=>?_) fun _=>?_)
 all_goals try omega
 refine z0r ?_
 refine z0d (z1o (fun q:Nat × Int=>⟨42,[(1,.ptr (0,1) 0),(3,I .i64 q.2),(10,.d (.slice (ks.map rxc))),(11,I .i64 ks.length),(12,I .i64 (q.1:Nat))],[(1,.box ((rx5 op mn mx rs ks).map .d))],H⟩) (fun q=>q.1≤ks.length∧0≤q.2∧q.2≤65∧psL 65 (ks.drop q.1) q.2=psL 65 ks 0) (fun q=>ks.length-q.1) ?_ (0,0) ⟨zAf _,by simp,by simp,rfl⟩) rfl rfl
 rintro⟨i,a⟩ ⟨i1,i2,i3,i4⟩ ihl
 simp only at i1 i2 i3 i4 ihl⊢
 by_cases hlt:i<ks.length
 ·obtain⟨k,hk⟩:∃k,ks[i]? =some k:=⟨_,zA0 hlt⟩
  have hkv:=z5g hv.2 k (zA2 hk)
  have c:=ih k (zA2 hk) (z5z hf3 k (zA2 hk)) hkv
  have hr:=zx8 (C:=65) (by decide) k hkv
  rw[zmq hk]at i4
  generalize ps 65 k=pk at c hr i4
  obtain⟨op',mn',mx',rs',ks'⟩:=k
  have hk':=z62 hk
  rw[Drx,z3i]at c
  repeat' first|(apply z05;first|refine z0n ?_| (apply z0a;first|refine z02 z16 rfl rfl ?_| refine z02 z1w rfl rfl ?_| refine z02 z1y rfl rfl ?_)|(apply z0c;refine z02 z0i rfl rfl ?_)|(apply z0k;refine z02 (z1a (ys:=ks.map rxc) rfl hk') rfl rfl ?_)|(apply z0t;first|refine z02 (z0z z1h) rfl rfl ?_| refine z02 (zi9 z1h) rfl rfl ?_)|(apply z0s;first|refine z02 zcr rfl rfl ?_| refine z02 z84 rfl rfl ?_)|(apply z0j;refine z29 c ?_)|(apply z0f;refine z25 ?_)|(apply z0l;refine z0b z2e ?_))|(apply z06;first|refine z0m ?_|apply z09)|(apply z07;first|apply z08|apply z00|apply z04|apply z01|apply z03|refine z0h (fun _=>?_) (fun _=>?_)| refine z38 rfl (fun _=>?_) (fun _=>?_)|refine z0o ?_)
  all_goals try omega
  exact z0d (ihl (i+1,min (a+pk) 65) ⟨by simp only;omega,by simp only;omega,by simp only;omega,i4⟩ (by simp only;omega)) rfl rfl
 ·obtain rfl:i=ks.length:=by omega
  rw[zAs,psL]at i4
  subst i4
  by_cases o4:op=4
  ·rw[zAz o4]
   rcases z7a hv.1 with h|h|h|⟨_,_,_,h1,h2,h3⟩
   ·exact absurd (h.1.symm.trans o4) (by decide)
   ·exact absurd (h.1.symm.trans o4) (by decide)
   ·exact absurd (h.1.symm.trans o4) (by decide)
   have m1:(psL 65 ks 0)*max mn 1≤65*16:=Int.mul_le_mul i3 (by omega) (by omega) (by decide)
   have m2:0≤(psL 65 ks 0)*max mn 1:=Int.mul_nonneg i2 (by omega)
   have m3:mx≠-1→(psL 65 ks 0)*mx≤65*16:=fun h=>Int.mul_le_mul i3 (by omega) (by omega) (by decide)
   have m4:mx≠-1→0≤(psL 65 ks 0)*mx:=fun h=>Int.mul_nonneg i2 (by omega)
   rw[rep]
   by_cases hm:mx=-1
   ·rw[zAz hm]
    exact zD20
   ·rw[zAy hm]
    have m5:=m3 hm
    have m6:=m4 hm
    exact zD20
  ·rw[zAy o4]
   repeat' first|(apply z05;first|refine z0n ?_| (apply z0a;refine z02 z16 rfl rfl ?_)|(apply z0c;refine z02 z0i rfl rfl ?_)|(apply z0t;refine z02 (zi9 z1h) rfl rfl ?_)|(apply z0s;first|refine z02 zcr rfl rfl ?_| refine z02 z84 rfl rfl ?_))|(apply z06;first|refine z0m ?_|apply z09)|(apply z07;first|apply z08|apply z00|apply z04|apply z01|apply z03|refine z0h (fun _=>?_) (fun _=>?_)| refine z38 rfl (fun _=>?_) (fun _=>?_)|refine z0o ?_)
   all_goals try omega
   refine z0e func150 _ z0p ⟨?_,rfl⟩
   rw[Int.min_eq_left i3]
theorem zff(e:Rx)(hfit:fit e):z0q prog 122 [.d (Drx e)] (I .i64 (val e)):=by
 refine z0y fun H=>?_
 refine z0g func122 (by kernel_rfl) rfl (by simp) ?_
 have c1:=y04 3 e hfit 1 0 0 (by decide) (by decide) (by decide) (by decide)
 have c2:=zjg e hfit
 have c3:=fun h=>zjz e hfit h
 rw[y36]
 generalize sm e 1 0=r at c1
 obtain⟨rb,rn⟩:=r
 simp only at c1⊢
 generalize ps 65 e=pe at c3
 generalize vns e=ve at c2 c3
 obtain⟨op,mn,mx,rs,ks⟩:=e
 rw[Drx,z3i]at *
 dsimp only[f122]
 cases rb with
 | false =>
  repeat' first|(apply z05;first|refine z0n ?_| (apply z0a;refine z02 z1r rfl rfl ?_)|(apply z0j;refine za1 c1 rfl rfl (by decide) ?_)|(apply z0f;refine z25 ?_)|(apply z0l;refine z0b z2e ?_)|(apply z18;refine z0b z43 ?_))|(apply z06;first|refine z0m ?_|apply z09)|(apply z07;first|apply z08|apply z00|refine z1j ?_| apply z01)
  all_goals try omega
  exact z0e func122 _ z0p ⟨rfl,rfl⟩
 | true =>
  cases ve with
  | false =>
   repeat' first|(apply z05;first|refine z0n ?_| (apply z0a;refine z02 z1r rfl rfl ?_)|(apply z0j;first|refine za1 c1 rfl rfl (by decide) ?_|refine z29 c2 ?_)|(apply z0f;refine z25 ?_)|(apply z0l;refine z0b z2e ?_)|(apply z18;refine z0b z43 ?_))|(apply z06;first|refine z0m ?_|apply z09)|(apply z07;first|apply z08|apply z00|refine z1j ?_| refine z15 ?_| apply z01)
   all_goals try omega
   exact z0e func122 _ z0p ⟨rfl,rfl⟩
  | true =>
   have c4:=c3 rfl
   by_cases hp:64<pe
   ·exact zD22
   ·exact zD22
end Go.Proofs.YtonhfccmeammbaaGreatDoor
