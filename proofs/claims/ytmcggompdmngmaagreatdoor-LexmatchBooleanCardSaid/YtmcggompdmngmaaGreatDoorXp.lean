/- A part. -/
import Derived.Test.YtmcggompdmngmaaGreatDoorXt
set_option linter.all false
open Go.Proofs.Tryz
namespace Go.Proofs.YtmcggompdmngmaaGreatDoor
open Go.Ab Go.Rx
set_option maxHeartbeats 20000000
set_option maxRecDepth 100000
attribute [local irreducible] Run Ops Op1 z0y Val Tr z0a z0u NF Rel z27 z29
abbrev cnt(n:Int):Blk:=.box [I .i64 n]
theorem yc3(e:Rx)(d n:Int)(hd:1≤d)(h0:0≤n)(h1:n≤200)(h:(sm e d n).1=true):0≤(sm e d n).2∧(sm e d n).2≤200:=by
 have:=zvk.1 e d n hd h0 h1
 split at this
 ·rw[this];simp only;omega
 ·rw[this]at h;cases h
theorem y0g{ks:List Rx}{i:Nat}{k:Rx}(h:ks[i]? =some k)(d n:Int):smL (ks.drop i) d n=if(sm k d n).1=true then smL (ks.drop (i+1)) d (sm k d n).2 else(false,(sm k d n).2):=by
 rw[drop_cons h,smL]
theorem y5j(X:Nat):∀(e:Rx),fit e→∀(d n:Int) (e0:Nat),1≤d→d≤100→0≤n→n≤200→z0u prog 89 [.d (Drx e),I .i64 d,.ptr (e0,X) 0] [((e0,X),cnt n)] [((e0,X),cnt (sm e d n).2)] (B (sm e d n).1):=by
 refine Rx.ind' fun op mn mx rs ks ih hfit d n e0 hd hd1 h0 h1=>?_
 obtain⟨hf1,hf2,hf3⟩:=hfit
 refine z0v fun H hH=>?_
 have hX:H e0 X=some (cnt n):=hH ((e0,X),cnt n) (by simp)
 refine z05 func89 (by kernel_rfl) rfl (by simp) ?_
 rw[Drx,z4h,sm]
 dsimp only[f89]
 by_cases hb:smB d (n+1)=true
 ·rw[zAz hb]
  have hb':=hb
  simp only[smB,zAu,zA3]at hb'
  repeat' first|(apply z1f;first|refine z07 (z4f (b:=cnt (n+1)) rfl rfl rfl rfl) rfl (bkN (z3y H (e0,X) (cnt (n+1)))) ?_| refine z07 (z4f (b:=cnt n) rfl rfl rfl rfl) rfl (bkN hX) ?_)|(apply z0x;refine zmr (raw:=cnt n) (raw':=cnt (n+1)) hX ?_)|(apply z1n;refine z09 z3s ?_)|refine z04 ?_|refine fk (fun _=>?_) fun _=>?_
  all_goals try omega
  all_goals exact z03 func89 _ z1h ⟨rfl,rfl⟩
 ·rw[zAy hb]
  have hb':=hb
  simp only[smB,zAu,zA3,not_or]at hb'
  repeat' first|(apply z1f;first|refine z07 (z4f (b:=cnt (n+1)) rfl rfl rfl rfl) rfl (bkN (z3y H (e0,X) (cnt (n+1)))) ?_| refine z07 (z4f (b:=cnt n) rfl rfl rfl rfl) rfl (bkN hX) ?_)|(apply z0x;refine zmr (raw:=cnt n) (raw':=cnt (n+1)) hX ?_)|(apply z1n;refine z09 z3s ?_)|refine z04 ?_|refine fk (fun _=>?_) fun _=>?_
  all_goals try omega
  refine z0f ?_
  refine z00 (z0s (fun q:Nat × Int=>⟨36,[(1,I .i64 d),(2,.ptr (e0+1,X) 0),(23,.d (.slice (ks.map rxc))),(24,I .i64 ks.length),(25,I .i64 (q.1:Nat))],[],upd H (e0,X) (cnt q.2)⟩) (fun q=>q.1≤ks.length∧0≤q.2∧q.2≤200∧smL (ks.drop q.1) (d+1) q.2=smL ks (d+1) (n+1)) (fun q=>ks.length-q.1) ?_ (0,n+1) ⟨zAf _,by simp only;omega,by simp only;omega,rfl⟩) rfl rfl
  rintro⟨i,m⟩ ⟨i1,i2,i3,i4⟩ ihl
  simp only at i1 i2 i3 i4 ihl⊢
  by_cases hlt:i<ks.length
  ·obtain⟨k,hk⟩:∃k,ks[i]? =some k:=⟨_,zA0 hlt⟩
   rw[y0g hk]at i4
   have c:=ih k (zA2 hk) (z9r hf3 k (zA2 hk)) (d+1) m (e0+1) (by omega) (by omega) i2 i3
   have hle:=yc3 k (d+1) m (by omega) i2 i3
   generalize sm k (d+1) m=r at c i4 hle
   obtain⟨rb,rn⟩:=r
   simp only at c i4 hle
   obtain⟨op',mn',mx',rs',ks'⟩:=k
   have hk':=zbw hk
   rw[Drx,z4h]at c
   cases rb with
   | true =>
    obtain⟨hle1,hle2⟩:=hle rfl
    rw[zAz rfl]at i4
    repeat' first|(apply z01;refine z07 (z11 (ys:=ks.map rxc) rfl hk') rfl rfl ?_)|(apply z06;refine y1i c rfl (z3y H (e0,X) (cnt m)) (by decide) ?_)|refine z04 ?_|refine fk (fun _=>?_) fun _=>?_
    all_goals try omega
    rw[z1v]
    exact z00 (ihl (i+1,rn) ⟨by simp only;omega,hle1,hle2,i4⟩ (by simp only;omega)) rfl rfl
   | false =>
    rw[zAy (by simp)]at i4
    rw[←i4]
    repeat' first|(apply z01;refine z07 (z11 (ys:=ks.map rxc) rfl hk') rfl rfl ?_)|(apply z06;refine y1i c rfl (z3y H (e0,X) (cnt m)) (by decide) ?_)|refine z04 ?_|refine fk (fun _=>?_) fun _=>?_
    all_goals try omega
    refine z03 func89 _ z1h ⟨rfl,?_⟩
    exact z1v _ _ _ _
  ·obtain rfl:i=ks.length:=by omega
   rw[zAs,smL]at i4
   rw[←i4]
   repeat' first|refine z04 ?_|refine fk (fun _=>?_) fun _=>?_
   all_goals try omega
   exact z03 func89 _ z1h ⟨rfl,rfl⟩
theorem zqd{l:List Rg}{i:Nat}{r:Rg}(h:l[i]? =some r)(a:Int):z9z a (l.drop i)=(decide (a≤r.1)&&decide (r.1≤r.2)&&decide (r.2≤1114111)&&z9z (r.2+2) (l.drop (i+1))):=by
 rw[drop_cons h,z9z]
def prv(l:List Rg)(i:Nat)(a:Int):Prop:=(i=0∧a=0)∨(0<i∧∃p,l[i-1]? =some p∧a=p.2+2∧0≤p.2∧p.2≤1114111)
theorem zq1(l:List Rg)(hl:l.length≤9223372036854775807):z0a prog 166 [.d (rgs l)] (B (zly l)):=by
 refine z0q fun H=>?_
 refine z05 func166 (by kernel_rfl) rfl (by simp) ?_
 dsimp only[f166]
 repeat' first|refine z04 ?_|fail
 all_goals try omega
 refine z0f ?_
 refine z00 (z0s (fun q:Nat × Int=>⟨47,[(0,.d (rgs l)),(5,.d (rgs l)),(6,I .i64 l.length),(7,I .i64 (q.1:Nat))],[],H⟩) (fun q=>q.1≤l.length∧prv l q.1 q.2∧z9z q.2 (l.drop q.1)=z9z 0 l) (fun q=>l.length-q.1) ?_ (0,0) ⟨zAf _,.inl ⟨rfl,rfl⟩,rfl⟩) rfl rfl
 rintro⟨i,a⟩ ⟨i1,i2,i3⟩ ih
 simp only at i1 i2 i3 ih⊢
 by_cases hlt:i<l.length
 ·obtain⟨r,hr⟩:∃r,l[i]? =some r:=⟨_,zA0 hlt⟩
  rw[zqd hr]at i3
  by_cases hgd:a≤r.1∧r.1≤r.2∧r.2≤1114111
  ·rw[zAi hgd.1,zAi hgd.2.1,zAi hgd.2.2,Bool.true_and,Bool.true_and,Bool.true_and]at i3
   rcases i2 with⟨rfl,rfl⟩|⟨hi,p,hp,rfl,hp0,hp1⟩
   ·repeat' (first|(apply z01;refine z07 (z11 (ys:=l.map rgc) rfl (idx hr)) rfl rfl ?_)|refine z04 ?_|refine fk (fun _=>?_) (fun _=>?_)|(refine z13 (fun hg=>?_) (fun hg=>?_)<;> simp only[hg] <;> (try simp only[zA3,zA5,zA6,zA8]at hg)))
    all_goals try omega
    all_goals exact z00 (ih (1,r.2+2) ⟨by simp only;omega,.inr ⟨by simp,r,hr,rfl,by omega,hgd.2.2⟩,i3⟩ (by simp only;omega)) rfl rfl
   ·have hp':l[((i:Int)-1).toNat]? =some p:=by rw[←hp];congr 1;omega
    repeat' first|(apply z01;refine z07 (z11 (ys:=l.map rgc) rfl (idx hr)) rfl rfl ?_)|(apply z02;refine z0c (z11 (ys:=l.map rgc) rfl (zam hp')) rfl rfl ?_)|(apply z19;refine z0c (z16 (zc9 (by omega) (by omega))) rfl rfl ?_)|refine z04 ?_|refine fk (fun _=>?_) (fun _=>?_)|(refine z13 (fun hg=>?_) (fun hg=>?_)<;> simp only[hg] <;> (try simp only[zA3,zA5,zA6,zA8]at hg))
    all_goals try omega
    all_goals exact z00 (ih (i+1,r.2+2) ⟨by simp only;omega,.inr ⟨by simp,r,by simpa using hr,rfl,by omega,hgd.2.2⟩,i3⟩ (by simp only;omega)) rfl rfl
  ·have hb:zly l=false:=by
    rw[zly,←i3]
    have:(decide (a≤r.1)&&decide (r.1≤r.2)&&decide (r.2≤1114111))=false:=by
     rw[←Bool.decide_and,←Bool.decide_and,zA5]
     exact fun h=>hgd ⟨h.1.1,h.1.2,h.2⟩
    rw[this];rfl
   rw[hb]
   rcases i2 with⟨rfl,rfl⟩|⟨hi,p,hp,rfl,hp0,hp1⟩
   ·repeat' (first|(apply z01;refine z07 (z11 (ys:=l.map rgc) rfl (idx hr)) rfl rfl ?_)|refine z04 ?_|refine fk (fun _=>?_) (fun _=>?_)|(refine z13 (fun hg=>?_) (fun hg=>?_)<;> simp only[hg] <;> (try simp only[zA3,zA5,zA6,zA8]at hg)))
    all_goals try omega
    all_goals exact z03 func166 _ z1h ⟨rfl,rfl⟩
   ·have hp':l[((i:Int)-1).toNat]? =some p:=by rw[←hp];congr 1;omega
    repeat' first|(apply z01;refine z07 (z11 (ys:=l.map rgc) rfl (idx hr)) rfl rfl ?_)|(apply z02;refine z0c (z11 (ys:=l.map rgc) rfl (zam hp')) rfl rfl ?_)|(apply z19;refine z0c (z16 (zc9 (by omega) (by omega))) rfl rfl ?_)|refine z04 ?_|refine fk (fun _=>?_) (fun _=>?_)|(refine z13 (fun hg=>?_) (fun hg=>?_)<;> simp only[hg] <;> (try simp only[zA3,zA5,zA6,zA8]at hg))
    all_goals try omega
    all_goals exact z03 func166 _ z1h ⟨rfl,rfl⟩
 ·obtain rfl:i=l.length:=by omega
  rw[zAs,z9z]at i3
  rw[zly,←i3,Bool.true_and]
  repeat' first|refine z04 ?_|refine fk (fun _=>?_) fun _=>?_
  all_goals try omega
  refine z03 func166 _ z1h ⟨?_,rfl⟩
  congr 3;simp
theorem zm0{op:Int}{ks:List Rx}{i:Nat}{k:Rx}(h:ks[i]? =some k):z7e op (ks.take (i+1))=(z7e op (ks.take i)&&!decide (k.op=op)):=by
 rw[z5i h,z7e,List.all_append];simp[z7e]
theorem zfu{op:Int}{ks:List Rx}{i:Nat}{k:Rx}(h:ks[i]? =some k)(hk:k.op=op):z7e op ks=false:=by
 rw[Bool.eq_false_iff]
 intro h2
 have:=List.all_eq_true.1 h2 k (zA2 h)
 rw[hk]at this;simp at this
theorem y0j{op mn mx:Int}{rs:List Rg}{ks:List Rx}(h:(op≠1∧0<rs.length)∨(op≠4∧(mn≠0∨mx≠0))):vn (.mk op mn mx rs ks)=false:=by
 rw[Bool.eq_false_iff]
 intro h2
 rcases z5z h2 with⟨rfl,rfl,rfl,rfl,_⟩|⟨rfl,rfl,rfl,rfl,_⟩|⟨rfl,rfl,rfl,rfl,_⟩|⟨rfl,rfl,_⟩ <;> simp at h <;> omega
theorem y8s{op mn mx:Int}{rs:List Rg}{ks:List Rx}{i:Nat}{k:Rx}(hk:ks[i]? =some k)(h:k.op=op)(h4:op≠4):vn (.mk op mn mx rs ks)=false:=by
 rw[Bool.eq_false_iff]
 intro h2
 rcases z5z h2 with⟨rfl,rfl,rfl,rfl,_⟩|⟨rfl,rfl,rfl,rfl,_,h3⟩|⟨rfl,rfl,rfl,rfl,_,h3⟩|⟨rfl,_⟩
 ·simp at hk
 ·rw[zfu hk h]at h3;cases h3
 ·rw[zfu hk h]at h3;cases h3
 ·exact h4 rfl
theorem y5y{op mn mx:Int}{rs:List Rg}{ks:List Rx}(he:¬((op≠1∧0<rs.length)∨(op≠4∧(mn≠0∨mx≠0))))(h:op=4∨z7e op ks=true):vn (.mk op mn mx rs ks) =
 if op=1 then decide (ks.length=0)&&zly rs else if op=2 then !decide (ks.length=1)else if op=3 then decide (1<ks.length)
 else if op=4 then decide (ks.length=1)&&decide (0≤mn)&&decide (mn≤16)&&(decide (mx=-1)||(decide (mn≤mx)&&decide (mx≤16)))else false:=by
 rw[vn]
 have hrs:op≠1→rs.length=0:=by omega
 by_cases o4:op=4
 ·subst o4;simp[hrs]
 have hk:=h.resolve_left o4
 have hmn:mn=0:=by omega
 have hmx:mx=0:=by omega
 subst hmn hmx
 by_cases o1:op=1
 ·subst o1;simp
 have:=hrs o1
 simp[o1,o4,hk,this]
theorem zkz(op mn mx:Int)(rs:List Rg)(ks:List Rx)(hr:rs.length≤9223372036854775807)(hk:ks.length≤9223372036854775807):z0a prog 130 [.d (.agg (rx5 op mn mx rs ks))] (B (vn (.mk op mn mx rs ks))):=by
 refine z0q fun H=>?_
 refine z05 func130 (by kernel_rfl) rfl (by simp) ?_
 dsimp only[f130]
 by_cases he:(op≠1∧0<rs.length)∨(op≠4∧(mn≠0∨mx≠0))
 ·rw[y0j he]
  repeat' first|(apply z1n;refine z09 z3s ?_)|refine z04 ?_|refine fk (fun _=>?_) fun _=>?_
  all_goals try omega
  all_goals exact z03 func130 _ z1h ⟨rfl,rfl⟩
 repeat' first|(apply z1n;refine z09 z3s ?_)|refine z04 ?_|refine fk (fun _=>?_) fun _=>?_
 all_goals try omega
 all_goals (
  refine z0f ?_
  refine z00 (z0s (fun i:Nat=>⟨101,[(1,.ptr (0,1) 0),(3,I .i64 ks.length),(34,.d (.slice (ks.map rxc))),(35,I .i64 ks.length),(36,I .i64 (i:Nat))],[(1,.box ((rx5 op mn mx rs ks).map .d))],H⟩) (fun i=>i≤ks.length∧(op=4∨z7e op (ks.take i)=true)) (fun i=>ks.length-i) ?_ 0 ⟨zAf _,.inr rfl⟩) rfl rfl
  rintro i ⟨i1,i2⟩ ihl
  by_cases hlt:i<ks.length
  ·obtain⟨k,hk2⟩:∃k,ks[i]? =some k:=⟨_,zA0 hlt⟩
   obtain⟨op',mn',mx',rs',ks'⟩:=k
   have hk':=zbw hk2
   have hkt:=zm0 (op:=op) hk2
   by_cases hbad:op'=op∧op≠4
   ·rw[y8s hk2 hbad.1 hbad.2]
    repeat' first|(apply z01;refine z07 (z11 (ys:=ks.map rxc) rfl hk') rfl rfl ?_)|refine z04 ?_|refine fk (fun _=>?_) fun _=>?_
    all_goals try omega
    all_goals exact z03 func130 _ z1h ⟨rfl,rfl⟩
   ·repeat' (first|(apply z01;refine z07 (z11 (ys:=ks.map rxc) rfl hk') rfl rfl ?_)|refine z04 ?_|refine fk (fun _=>?_) fun _=>?_)
    all_goals try omega
    all_goals exact z00 (ihl (i+1) ⟨by omega,by
     by_cases h4:op=4
     ·exact .inl h4
     ·rw[hkt,i2.resolve_left h4,Bool.true_and,zA6,zA5]
      exact .inr fun h2=>hbad ⟨h2,h4⟩⟩ (by omega)) rfl rfl
  ·obtain rfl:i=ks.length:=by omega
   rw[List.take_length]at i2
   have cv:=zq1 rs hr
   clear ihl
   have hvl:=y5y he i2
   by_cases o1:op=1
   ·subst o1
    repeat' first|(apply z06;refine z1o cv ?_)|refine z04 ?_|refine fk (fun _=>?_) fun _=>?_
    all_goals try omega
    all_goals (refine z03 func130 _ z1h ⟨?_,rfl⟩;rw[hvl];simp_all <;> omega)
   by_cases o2:op=2
   ·subst o2
    all_goals exact zD52
   by_cases o3:op=3
   ·subst o3
    all_goals exact zD52
   by_cases o4:op=4
   ·subst o4
    all_goals exact zD52
   ·repeat' (first|refine z04 ?_|refine fk (fun _=>?_) fun _=>?_)
    all_goals try omega
    all_goals (refine z03 func130 _ z1h ⟨?_,rfl⟩;rw[hvl];simp_all <;> omega))
theorem zv4{ks:List Rx}{i:Nat}{k:Rx}(h:ks[i]? =some k):zev (ks.drop i)=(vns k&&zev (ks.drop (i+1))):=by rw[drop_cons h,zev]
theorem zkq:∀(e:Rx),fit e→z0a prog 90 [.d (Drx e)] (B (vns e)):=by
 refine Rx.ind' fun op mn mx rs ks ih hfit=>?_
 obtain⟨hf1,hf2,hf3⟩:=hfit
 refine z0q fun H=>?_
 refine z05 func90 (by kernel_rfl) rfl (by simp) ?_
 rw[Drx,z4h,vns]
 dsimp only[f90]
 have cv:=zkz op mn mx rs ks hf1 hf2
 cases hv:vn (.mk op mn mx rs ks)with
 | false =>
  rw[hv]at cv
  repeat' first|(apply z06;refine z1o cv ?_)|(apply z1n;refine z09 z3s ?_)|refine z04 ?_|fail
  all_goals try omega
  exact z03 func90 _ z1h ⟨rfl,rfl⟩
 | true =>
  rw[hv]at cv
  rw[Bool.true_and]
  repeat' first|(apply z06;refine z1o cv ?_)|(apply z1n;refine z09 z3s ?_)|refine z04 ?_|fail
  all_goals try omega
  refine z0f ?_
  refine z00 (z0s (fun i:Nat=>⟨19,[(9,.d (.slice (ks.map rxc))),(10,I .i64 ks.length),(11,I .i64 (i:Nat))],[],H⟩) (fun i=>i≤ks.length∧zev (ks.drop i)=zev ks) (fun i=>ks.length-i) ?_ 0 ⟨zAf _,rfl⟩) rfl rfl
  rintro i ⟨i1,i2⟩ ihl
  by_cases hlt:i<ks.length
  ·obtain⟨k,hk⟩:∃k,ks[i]? =some k:=⟨_,zA0 hlt⟩
   have c:=ih k (zA2 hk) (z9r hf3 k (zA2 hk))
   rw[zv4 hk]at i2
   cases hvk:vns k with
   | true =>
    rw[hvk]at c i2
    rw[Bool.true_and]at i2
    obtain⟨op',mn',mx',rs',ks'⟩:=k
    have hk':=zbw hk
    rw[Drx,z4h]at c
    repeat' first|(apply z01;refine z07 (z11 (ys:=ks.map rxc) rfl hk') rfl rfl ?_)|(apply z06;refine z1o c ?_)|refine z04 ?_|refine fk (fun _=>?_) fun _=>?_
    all_goals try omega
    exact z00 (ihl (i+1) ⟨by omega,i2⟩ (by omega)) rfl rfl
   | false =>
    rw[hvk]at c i2
    rw[Bool.false_and]at i2
    obtain⟨op',mn',mx',rs',ks'⟩:=k
    have hk':=zbw hk
    rw[Drx,z4h]at c
    repeat' first|(apply z01;refine z07 (z11 (ys:=ks.map rxc) rfl hk') rfl rfl ?_)|(apply z06;refine z1o c ?_)|refine z04 ?_|refine fk (fun _=>?_) fun _=>?_
    all_goals try omega
    refine z03 func90 _ z1h ⟨?_,rfl⟩
    rw[←i2]
  ·obtain rfl:i=ks.length:=by omega
   rw[zAs,zev]at i2
   repeat' first|refine z04 ?_|refine fk (fun _=>?_) fun _=>?_
   all_goals try omega
   refine z03 func90 _ z1h ⟨?_,rfl⟩
   rw[←i2]
theorem y9f{C:Int}(hC:1≤C)(e:Rx)(h:vns e=true):0≤ps C e∧ps C e≤C:=by
 rw[(yaj hC).1 e h]
 have:=zf7.1 e h
 omega
theorem zy7{C:Int}{ks:List Rx}{i:Nat}{k:Rx}(h:ks[i]? =some k)(n:Int):psL C (ks.drop i) n=psL C (ks.drop (i+1)) (min (n+ps C k) C):=by rw[drop_cons h,psL]
theorem zl8:∀(e:Rx),fit e→vns e=true→z0a prog 91 [.d (Drx e)] (I .i64 (ps 65 e)):=by
 refine Rx.ind' fun op mn mx rs ks ih hfit hv=>?_
 obtain⟨hf1,hf2,hf3⟩:=hfit
 rw[vns,zA7]at hv
 refine z0q fun H=>?_
 refine z05 func91 (by kernel_rfl) rfl (by simp) ?_
 rw[Drx,z4h,ps]
 dsimp only[f91]
 by_cases o1:op=1
 ·rw[zAz o1]
  repeat' first|(apply z1n;refine z09 z3s ?_)|refine z04 ?_|refine fk (fun _=>?_) fun _=>?_
  all_goals try omega
  exact z03 func91 _ z1h ⟨rfl,rfl⟩
 rw[zAy o1]
 repeat' first|(apply z1n;refine z09 z3s ?_)|refine z04 ?_|refine fk (fun _=>?_) fun _=>?_
 all_goals try omega
 refine z0f ?_
 refine z00 (z0s (fun q:Nat × Int=>⟨42,[(1,.ptr (0,1) 0),(3,I .i64 q.2),(10,.d (.slice (ks.map rxc))),(11,I .i64 ks.length),(12,I .i64 (q.1:Nat))],[(1,.box ((rx5 op mn mx rs ks).map .d))],H⟩) (fun q=>q.1≤ks.length∧0≤q.2∧q.2≤65∧psL 65 (ks.drop q.1) q.2=psL 65 ks 0) (fun q=>ks.length-q.1) ?_ (0,0) ⟨zAf _,by simp,by simp,rfl⟩) rfl rfl
 rintro⟨i,a⟩ ⟨i1,i2,i3,i4⟩ ihl
 simp only at i1 i2 i3 i4 ihl⊢
 by_cases hlt:i<ks.length
 ·obtain⟨k,hk⟩:∃k,ks[i]? =some k:=⟨_,zA0 hlt⟩
  have hkv:=z4z hv.2 k (zA2 hk)
  have c:=ih k (zA2 hk) (z9r hf3 k (zA2 hk)) hkv
  have hr:=y9f (C:=65) (by decide) k hkv
  rw[zy7 hk]at i4
  generalize ps 65 k=pk at c hr i4
  obtain⟨op',mn',mx',rs',ks'⟩:=k
  have hk':=zbw hk
  rw[Drx,z4h]at c
  repeat' first|(apply z01;refine z07 (z11 (ys:=ks.map rxc) rfl hk') rfl rfl ?_)|(apply z06;refine z1o c ?_)|refine z04 ?_|refine fk (fun _=>?_) fun _=>?_
  all_goals try omega
  exact z00 (ihl (i+1,min (a+pk) 65) ⟨by simp only;omega,by simp only;omega,by simp only;omega,i4⟩ (by simp only;omega)) rfl rfl
 ·obtain rfl:i=ks.length:=by omega
  rw[zAs,psL]at i4
  subst i4
  by_cases o4:op=4
  ·rw[zAz o4]
   rcases z5z hv.1 with h|h|h|⟨_,_,_,h1,h2,h3⟩
   ·exact absurd (h.1.symm.trans o4) (by decide)
   ·exact absurd (h.1.symm.trans o4) (by decide)
   ·exact absurd (h.1.symm.trans o4) (by decide)
   have m1:(psL 65 ks 0)*max mn 1≤65*16:=Int.mul_le_mul i3 (by omega) (by omega) (by decide)
   have m2:0≤(psL 65 ks 0)*max mn 1:=Int.mul_nonneg i2 (by omega)
   have m3:mx≠-1→(psL 65 ks 0)*mx≤65*16:=fun h=>Int.mul_le_mul i3 (by omega) (by omega) (by decide)
   have m4:mx≠-1→0≤(psL 65 ks 0)*mx:=fun h=>Int.mul_nonneg i2 (by omega)
   rw[rep]
   by_cases hm:mx=-1
   ·rw[zAz hm]
    exact zD111
   ·rw[zAy hm]
    have m5:=m3 hm
    have m6:=m4 hm
    exact zD111
  ·rw[zAy o4]
   repeat' first|refine z04 ?_|refine fk (fun _=>?_) fun _=>?_
   all_goals try omega
   refine z03 func91 _ z1h ⟨?_,rfl⟩
   rw[Int.min_eq_left i3]
theorem z8l(e:Rx)(hfit:fit e):z0a prog 51 [.d (Drx e)] (I .i64 (val e)):=by
 refine z0q fun H=>?_
 refine z05 func51 (by kernel_rfl) rfl (by simp) ?_
 have c1:=y5j 3 e hfit 1 0 0 (by decide) (by decide) (by decide) (by decide)
 have c2:=zkq e hfit
 have c3:=fun h=>zl8 e hfit h
 rw[yap]
 generalize sm e 1 0=r at c1
 obtain⟨rb,rn⟩:=r
 simp only at c1⊢
 generalize ps 65 e=pe at c3
 generalize vns e=ve at c2 c3
 obtain⟨op,mn,mx,rs,ks⟩:=e
 rw[Drx,z4h]at *
 dsimp only[f51]
 cases rb with
 | false =>
  repeat' first|(apply z06;refine z4u c1 ?_)|(apply z1n;refine z09 z3s ?_)|refine z04 ?_|fail
  all_goals try omega
  exact z03 func51 _ z1h ⟨rfl,rfl⟩
 | true =>
  cases ve with
  | false =>
   repeat' first|(apply z06;first|refine z4u c1 ?_| refine z1o c2 ?_)|(apply z1n;refine z09 z3s ?_)|refine z04 ?_|fail
   all_goals try omega
   exact z03 func51 _ z1h ⟨rfl,rfl⟩
  | true =>
   have c4:=c3 rfl
   by_cases hp:64<pe
   ·exact zD73
   ·exact zD73
end Go.Proofs.YtmcggompdmngmaaGreatDoor
