/- A part of the proof: G1 to G3. -/
import Derived.Test.YthdfkabdoidjfaaGreatDoorSt
set_option linter.all false
namespace Go.Proofs.YthdfkabdoidjfaaGreatDoor
open Go.Ab Go.Rx
set_option maxHeartbeats 20000000
set_option maxRecDepth 100000
attribute [local irreducible] Run Ops Op1 z25 Val Tr z0y z1x NF Rel z3j z3l
abbrev cnt (n:Int):Blk:=.box [I .i64 n]
theorem y7b (e:Rx) (d n:Int) (hd:1≤d) (h0:0≤n) (h1:n≤200) (h:(sm e d n).1=true):0≤(sm e d n).2∧(sm e d n).2≤200:=by
 have:=zqr.1 e d n hd h0 h1
 split at this
 · rw[this];simp only;omega
 · rw[this] at h;cases h
theorem ztx {ks:List Rx} {i:Nat} {k:Rx} (h:ks[i]? =some k) (d n:Int):smL (ks.drop i) d n=if (sm k d n).1=true then smL (ks.drop (i+1)) d (sm k d n).2 else (false,(sm k d n).2):=by
 rw[drop_cons h,smL]
theorem zzj (X:Nat):∀ (e:Rx),fit e→∀ (d n:Int) (e0:Nat),1≤d→d≤100→0≤n→n≤200→z1x Tryz.prog 53 [.d (Drx e),I .i64 d,.ptr (e0,X) 0] [((e0,X),cnt n)] [((e0,X),cnt (sm e d n).2)] (B (sm e d n).1):=by
 refine Rx.ind' fun op mn mx rs ks ih hfit d n e0 hd hd1 h0 h1=>?_
 obtain⟨hf1,hf2,hf3⟩:=hfit
 refine z22 fun H hH=>?_
 have hX:H e0 X=some (cnt n):=hH ((e0,X),cnt n) (by simp)
 refine z0k Tryz.func53 (by kernel_rfl) rfl (by simp) ?_
 rw[Drx,z4k,sm]
 dsimp only[Tryz.f53]
 by_cases hb:smB d (n+1)=true
 · rw[zAz hb]
   have hb':=hb
   simp only[smB,zAu,zA3] at hb'
   repeat' (first|(apply z08;(first|refine z0o ?_| (apply z0a;(first|refine z02 (z1k (b:=cnt (n+1))) rfl (bkN (z42 H (e0,X) (cnt (n+1)))) ?_| refine z02 (z1k (b:=cnt n)) rfl (bkN hX) ?_| refine z02 z1k rfl rfl ?_))|(apply z0e;(refine z02 z0t rfl rfl ?_))|(apply z0r;(refine z02 (z0s z0w) rfl rfl ?_))|(apply z13;(refine z02 (z1o rfl) rfl rfl ?_))|(apply z0d;(refine z4z (raw:=cnt n) (raw':=cnt (n+1)) rfl hX rfl rfl rfl rfl rfl rfl ?_))|(apply z1s;(refine z0b z3k ?_))))|(apply z07;(first|refine z0m ?_|apply z09|refine z1u ?_| refine z2p (fun _=>?_) (fun _=>?_)))|(apply z05;(first|apply z06|apply z00|refine z1a ?_| apply z04|apply z01|refine z0f (fun _=>?_) (fun _=>?_))))
   all_goals try (exfalso;omega)
   all_goals exact z0p Tryz.func53 _ z1c ⟨rfl,rfl⟩
 · rw[zAy hb]
   have hb':=hb
   simp only[smB,zAu,zA3,not_or] at hb'
   repeat' (first|(apply z08;(first|refine z0o ?_| (apply z0a;(first|refine z02 (z1k (b:=cnt (n+1))) rfl (bkN (z42 H (e0,X) (cnt (n+1)))) ?_| refine z02 (z1k (b:=cnt n)) rfl (bkN hX) ?_| refine z02 z1k rfl rfl ?_))|(apply z0e;(refine z02 z0t rfl rfl ?_))|(apply z0r;(refine z02 (z0s z0w) rfl rfl ?_))|(apply z13;(refine z02 (z1o rfl) rfl rfl ?_))|(apply z0d;(refine z4z (raw:=cnt n) (raw':=cnt (n+1)) rfl hX rfl rfl rfl rfl rfl rfl ?_))|(apply z1s;(refine z0b z3k ?_))))|(apply z07;(first|refine z0m ?_|apply z09|refine z1u ?_| refine z2p (fun _=>?_) (fun _=>?_)))|(apply z05;(first|apply z06|apply z00|refine z1a ?_| apply z04|apply z01|refine z0f (fun _=>?_) (fun _=>?_))))
   all_goals try (exfalso;omega)
   refine z19 ?_
   refine z0c (z1v (fun q:Nat × Int=>⟨36,[(1,I .i64 d),(2,.ptr (e0+1,X) 0),(23,.d (.slice (ks.map rxc))),(24,I .i64 ks.length),(25,I .i64 (q.1:Nat))],[],upd H (e0,X) (cnt q.2)⟩) (fun q=>q.1≤ks.length∧0≤q.2∧q.2≤200∧smL (ks.drop q.1) (d+1) q.2=smL ks (d+1) (n+1)) (fun q=>ks.length-q.1) ?_ (0,n+1) ⟨zAf _,by simp only;omega,by simp only;omega,rfl⟩) rfl rfl
   rintro⟨i,m⟩ ⟨i1,i2,i3,i4⟩ ihl
   simp only at i1 i2 i3 i4 ihl ⊢
   by_cases hlt:i<ks.length
   · obtain⟨k,hk⟩:∃ k,ks[i]? =some k:=⟨_,zA0 hlt⟩
     rw[ztx hk] at i4
     have c:=ih k (zA2 hk) (zcm hf3 k (zA2 hk)) (d+1) m (e0+1) (by omega) (by omega) i2 i3
     have hle:=y7b k (d+1) m (by omega) i2 i3
     generalize sm k (d+1) m=r at c i4 hle
     obtain⟨rb,rn⟩:=r
     simp only at c i4 hle
     obtain⟨op',mn',mx',rs',ks'⟩:=k
     have hk':=zep hk
     rw[Drx,z4k] at c
     cases rb with
     | true =>
      obtain⟨hle1,hle2⟩:=hle rfl
      rw[zAz rfl] at i4
      repeat' (first|(apply z08;(first|refine z0o ?_| (apply z0a;(first|refine z02 z2a rfl rfl ?_| refine z02 z2m rfl rfl ?_))|(apply z0i;(refine z02 (z23 (ys:=ks.map rxc) rfl hk') rfl rfl ?_))|(apply z0r;(refine z02 (z0s z0w) rfl rfl ?_))|(apply z0q;(refine zni c rfl (z42 H (e0,X) (cnt m)) (by decide) ?_))|(apply z0d;(refine z29 ?_))|(apply z0g;(refine z0b z1f ?_))))|(apply z07;(first|refine z0m ?_|apply z09))|(apply z05;(first|apply z06|apply z00|refine z0v ?_| apply z04|apply z01|apply z03|refine z0f (fun _=>?_) (fun _=>?_)| refine z0j ?_)))
      all_goals try (exfalso;omega)
      rw[z4g]
      exact z0c (ihl (i+1,rn) ⟨by simp only;omega,hle1,hle2,i4⟩ (by simp only;omega)) rfl rfl
     | false =>
      rw[zAy (by simp)] at i4
      rw[← i4]
      repeat' (first|(apply z08;(first|refine z0o ?_| (apply z0a;(first|refine z02 z2a rfl rfl ?_| refine z02 z2m rfl rfl ?_))|(apply z0i;(refine z02 (z23 (ys:=ks.map rxc) rfl hk') rfl rfl ?_))|(apply z0r;(refine z02 (z0s z0w) rfl rfl ?_))|(apply z0q;(refine zni c rfl (z42 H (e0,X) (cnt m)) (by decide) ?_))|(apply z0d;(refine z29 ?_))|(apply z0g;(refine z0b z1f ?_))))|(apply z07;(first|refine z0m ?_|apply z09))|(apply z05;(first|apply z06|apply z00|refine z1a ?_| apply z04|apply z01|refine z0f (fun _=>?_) (fun _=>?_)| refine z0j ?_)))
      all_goals try (exfalso;omega)
      refine z0p Tryz.func53 _ z1c ⟨rfl,?_⟩
      exact z4g _ _ _ _
   · obtain rfl:i=ks.length:=by omega
     rw[zAs,smL] at i4
     rw[← i4]
     repeat' (first|(apply z08;(refine z0o ?_))|(apply z07;(first|refine z0m ?_|apply z09))|(apply z05;(first|apply z06|apply z00|apply z04|apply z01|refine z0f (fun _=>?_) (fun _=>?_)| refine z0j ?_)))
     all_goals try (exfalso;omega)
     exact z0p Tryz.func53 _ z1c ⟨rfl,rfl⟩
theorem zo4 {l:List Rg} {i:Nat} {r:Rg} (h:l[i]? =some r) (a:Int):zeb a (l.drop i)=(decide (a≤r.1)&&decide (r.1≤r.2)&&decide (r.2≤1114111)&&zeb (r.2+2) (l.drop (i+1))):=by
 rw[drop_cons h,zeb]
def prv (l:List Rg) (i:Nat) (a:Int):Prop:=(i=0∧a=0)∨(0<i∧∃ p,l[i-1]? =some p∧a=p.2+2∧0≤p.2∧p.2≤1114111)
theorem znz (l:List Rg) (hl:l.length≤9223372036854775807):z0y Tryz.prog 118 [.d (rgs l)] (B (zqj l)):=by
 refine z1p fun H=>?_
 refine z0k Tryz.func118 (by kernel_rfl) rfl (by simp) ?_
 dsimp only[Tryz.f118]
 repeat' (first|(apply z08;(first|refine z0o ?_| (apply z13;(refine z02 (z1o rfl) rfl rfl ?_))))|(apply z07;(first|refine z0m ?_|apply z09))|(apply z05;(first|apply z06|apply z00|apply z01)))
 all_goals try (exfalso;omega)
 refine z19 ?_
 refine z0c (z1v (fun q:Nat × Int=>⟨47,[(0,.d (rgs l)),(5,.d (rgs l)),(6,I .i64 l.length),(7,I .i64 (q.1:Nat))],[],H⟩) (fun q=>q.1≤l.length∧prv l q.1 q.2∧zeb q.2 (l.drop q.1)=zeb 0 l) (fun q=>l.length-q.1) ?_ (0,0) ⟨zAf _,.inl ⟨rfl,rfl⟩,rfl⟩) rfl rfl
 rintro⟨i,a⟩ ⟨i1,i2,i3⟩ ih
 simp only at i1 i2 i3 ih ⊢
 by_cases hlt:i<l.length
 · obtain⟨r,hr⟩:∃ r,l[i]? =some r:=⟨_,zA0 hlt⟩
   rw[zo4 hr] at i3
   by_cases hgd:a≤r.1∧r.1≤r.2∧r.2≤1114111
   · rw[zAi hgd.1,zAi hgd.2.1,zAi hgd.2.2,Bool.true_and,Bool.true_and,Bool.true_and] at i3
     rcases i2 with ⟨rfl,rfl⟩|⟨hi,p,hp,rfl,hp0,hp1⟩
     · repeat' (first|(apply z08;(first|refine z0o ?_| (apply z0a;(refine z02 z2a rfl rfl ?_))|(apply z0i;(refine z02 (z23 (ys:=l.map rgc) rfl (idx hr)) rfl rfl ?_))|(apply z0r;(refine z02 (z0s z0w) rfl rfl ?_))|(apply z13;(refine z02 (z1o rfl) rfl rfl ?_))|(apply z0d;(refine z29 ?_))|(apply z0g;(refine z0b z1f ?_))))|(apply z07;(first|refine z0m ?_|apply z09))|(apply z05;(first|apply z06|apply z00|refine z1a ?_| refine z0v ?_| apply z04|apply z01|apply z2c|apply z03|refine z0f (fun _=>?_) (fun _=>?_)| refine z0j ?_))|(apply z2d;(first|(apply z0u;refine z1h mix ?_)|refine z1w ?_| refine zg3 rfl rfl (by decide) ?_|refine z2e ?_| (apply z0l;(refine z0h z1k rfl rfl ?_))|(apply z11;(refine z0h z0t rfl rfl ?_))|(refine z2f (fun hg=>?_) (fun hg=>?_)<;> simp only[hg] <;> (try simp only[zA3,zA5,zA6,zA8] at hg)))))
       all_goals try (exfalso;omega)
       all_goals exact z0c (ih (1,r.2+2) ⟨by simp only;omega,.inr ⟨by simp,r,hr,rfl,by omega,hgd.2.2⟩,i3⟩ (by simp only;omega)) rfl rfl
     · have hp':l[((i:Int)-1).toNat]? =some p:=by rw[← hp];congr 1;omega
       repeat' (first|(apply z08;(first|refine z0o ?_| (apply z0a;(refine z02 z2a rfl rfl ?_))|(apply z0i;(refine z02 (z23 (ys:=l.map rgc) rfl (idx hr)) rfl rfl ?_))|(apply z0r;(refine z02 (z0s z0w) rfl rfl ?_))|(apply z13;(refine z02 (z1o rfl) rfl rfl ?_))|(apply z0d;(refine z29 ?_))|(apply z0g;(refine z0b z1f ?_))))|(apply z07;(first|refine z0m ?_|apply z09))|(apply z05;(first|apply z06|apply z00|refine z1a ?_| refine z0v ?_| apply z04|apply z01|apply z2c|apply z03|refine z0f (fun _=>?_) (fun _=>?_)| refine z0j ?_))|(apply z2d;(first|(apply z0u;refine z1h mix ?_)|refine z1w ?_| refine zg3 rfl rfl (by decide) ?_|refine z2e ?_| (apply z0l;(first|refine z0h z1k rfl rfl ?_| refine z0h z2l rfl rfl ?_))|(apply z11;(first|refine z0h z0t rfl rfl ?_| refine z0h (z6g rfl rfl) rfl rfl ?_))|(apply z0n;(refine z0h (z23 (ys:=l.map rgc) rfl (zgm hp')) rfl rfl ?_))|(apply z1m;(first|refine z0h (z0s (zb9 (by omega) (by omega))) rfl rfl ?_| refine z0h (z1g z0w) rfl rfl ?_))|(refine z2f (fun hg=>?_) (fun hg=>?_)<;> simp only[hg] <;> (try simp only[zA3,zA5,zA6,zA8] at hg)))))
       all_goals try (exfalso;omega)
       all_goals exact z0c (ih (i+1,r.2+2) ⟨by simp only;omega,.inr ⟨by simp,r,by simpa using hr,rfl,by omega,hgd.2.2⟩,i3⟩ (by simp only;omega)) rfl rfl
   · have hb:zqj l=false:=by
      rw[zqj,← i3]
      have:(decide (a≤r.1)&&decide (r.1≤r.2)&&decide (r.2≤1114111))=false:=by
       rw[← Bool.decide_and,← Bool.decide_and,zA5]
       exact fun h=>hgd ⟨h.1.1,h.1.2,h.2⟩
      rw[this];rfl
     rw[hb]
     rcases i2 with ⟨rfl,rfl⟩|⟨hi,p,hp,rfl,hp0,hp1⟩
     · repeat' (first|(apply z08;(first|refine z0o ?_| (apply z0a;(refine z02 z2a rfl rfl ?_))|(apply z0i;(refine z02 (z23 (ys:=l.map rgc) rfl (idx hr)) rfl rfl ?_))|(apply z0r;(refine z02 (z0s z0w) rfl rfl ?_))|(apply z13;(refine z02 (z1o rfl) rfl rfl ?_))|(apply z0d;(refine z29 ?_))|(apply z0g;(refine z0b z1f ?_))))|(apply z07;(first|refine z0m ?_|apply z09))|(apply z05;(first|apply z06|apply z00|refine z1a ?_| refine z0v ?_| apply z04|apply z01|apply z2c|apply z03|refine z0f (fun _=>?_) (fun _=>?_)| refine z0j ?_))|(apply z2d;(first|(apply z0u;refine z1h mix ?_)|refine z1w ?_| refine zg3 rfl rfl (by decide) ?_|refine z2e ?_| (apply z0l;(refine z0h z1k rfl rfl ?_))|(apply z11;(refine z0h z0t rfl rfl ?_))|(refine z2f (fun hg=>?_) (fun hg=>?_)<;> simp only[hg] <;> (try simp only[zA3,zA5,zA6,zA8] at hg)))))
       all_goals try (exfalso;omega)
       all_goals exact z0p Tryz.func118 _ z1c ⟨rfl,rfl⟩
     · have hp':l[((i:Int)-1).toNat]? =some p:=by rw[← hp];congr 1;omega
       repeat' (first|(apply z08;(first|refine z0o ?_| (apply z0a;(refine z02 z2a rfl rfl ?_))|(apply z0i;(refine z02 (z23 (ys:=l.map rgc) rfl (idx hr)) rfl rfl ?_))|(apply z0r;(refine z02 (z0s z0w) rfl rfl ?_))|(apply z13;(refine z02 (z1o rfl) rfl rfl ?_))|(apply z0d;(refine z29 ?_))|(apply z0g;(refine z0b z1f ?_))))|(apply z07;(first|refine z0m ?_|apply z09))|(apply z05;(first|apply z06|apply z00|refine z1a ?_| refine z0v ?_| apply z04|apply z01|apply z2c|apply z03|refine z0f (fun _=>?_) (fun _=>?_)| refine z0j ?_))|(apply z2d;(first|(apply z0u;refine z1h mix ?_)|refine z1w ?_| refine zg3 rfl rfl (by decide) ?_|refine z2e ?_| (apply z0l;(first|refine z0h z1k rfl rfl ?_| refine z0h z2l rfl rfl ?_))|(apply z11;(first|refine z0h z0t rfl rfl ?_| refine z0h (z6g rfl rfl) rfl rfl ?_))|(apply z0n;(refine z0h (z23 (ys:=l.map rgc) rfl (zgm hp')) rfl rfl ?_))|(apply z1m;(first|refine z0h (z0s (zb9 (by omega) (by omega))) rfl rfl ?_| refine z0h (z1g z0w) rfl rfl ?_))|(refine z2f (fun hg=>?_) (fun hg=>?_)<;> simp only[hg] <;> (try simp only[zA3,zA5,zA6,zA8] at hg)))))
       all_goals try (exfalso;omega)
       all_goals exact z0p Tryz.func118 _ z1c ⟨rfl,rfl⟩
 · obtain rfl:i=l.length:=by omega
   rw[zAs,zeb] at i3
   rw[zqj,← i3,Bool.true_and]
   repeat' (first|(apply z08;(first|refine z0o ?_| (apply z13;(refine z02 (z1o rfl) rfl rfl ?_))))|(apply z07;(first|refine z0m ?_|apply z09))|(apply z05;(first|apply z06|apply z00|apply z04|apply z01|refine z0f (fun _=>?_) (fun _=>?_)| refine z0j ?_)))
   all_goals try (exfalso;omega)
   refine z0p Tryz.func118 _ z1c ⟨?_,rfl⟩
   congr 3;simp
theorem zkj {op:Int} {ks:List Rx} {i:Nat} {k:Rx} (h:ks[i]? =some k):z7q op (ks.take (i+1))=(z7q op (ks.take i)&&!decide (k.op=op)):=by
 rw[z5s h,z7q,List.all_append];simp[z7q]
theorem zf2 {op:Int} {ks:List Rx} {i:Nat} {k:Rx} (h:ks[i]? =some k) (hk:k.op=op):z7q op ks=false:=by
 rw[Bool.eq_false_iff]
 intro h2
 have:=List.all_eq_true.1 h2 k (zA2 h)
 rw[hk] at this;simp at this
theorem zvj {op mn mx:Int} {rs:List Rg} {ks:List Rx} (h:(op≠1∧0<rs.length)∨(op≠4∧(mn≠0∨mx≠0))):vn (.mk op mn mx rs ks)=false:=by
 rw[Bool.eq_false_iff]
 intro h2
 rcases z7j h2 with ⟨rfl,rfl,rfl,rfl,_⟩|⟨rfl,rfl,rfl,rfl,_⟩|⟨rfl,rfl,rfl,rfl,_⟩|⟨rfl,rfl,_⟩ <;> simp at h <;> omega
theorem y3g {op mn mx:Int} {rs:List Rg} {ks:List Rx} {i:Nat} {k:Rx} (hk:ks[i]? =some k) (h:k.op=op) (h4:op≠4):vn (.mk op mn mx rs ks)=false:=by
 rw[Bool.eq_false_iff]
 intro h2
 rcases z7j h2 with ⟨rfl,rfl,rfl,rfl,_⟩|⟨rfl,rfl,rfl,rfl,_,h3⟩|⟨rfl,rfl,rfl,rfl,_,h3⟩|⟨rfl,_⟩
 · simp at hk
 · rw[zf2 hk h] at h3;cases h3
 · rw[zf2 hk h] at h3;cases h3
 · exact h4 rfl
theorem y00 {op mn mx:Int} {rs:List Rg} {ks:List Rx} (he:¬ ((op≠1∧0<rs.length)∨(op≠4∧(mn≠0∨mx≠0)))) (h:op=4∨z7q op ks=true):vn (.mk op mn mx rs ks) =
 if op=1 then decide (ks.length=0)&&zqj rs else if op=2 then !decide (ks.length=1) else if op=3 then decide (1<ks.length)
 else if op=4 then decide (ks.length=1)&&decide (0≤mn)&&decide (mn≤16)&&(decide (mx=-1)||(decide (mn≤mx)&&decide (mx≤16))) else false:=by
 rw[vn]
 have hrs:op≠1→rs.length=0:=by omega
 by_cases o4:op=4
 · subst o4;simp[hrs]
 have hk:=h.resolve_left o4
 have hmn:mn=0:=by omega
 have hmx:mx=0:=by omega
 subst hmn hmx
 by_cases o1:op=1
 · subst o1;simp
 have:=hrs o1
 simp[o1,o4,hk,this]
theorem zjq (op mn mx:Int) (rs:List Rg) (ks:List Rx) (hr:rs.length≤9223372036854775807) (hk:ks.length≤9223372036854775807):z0y Tryz.prog 104 [.d (.agg (rx5 op mn mx rs ks))] (B (vn (.mk op mn mx rs ks))):=by
 refine z1p fun H=>?_
 refine z0k Tryz.func104 (by kernel_rfl) rfl (by simp) ?_
 dsimp only[Tryz.f104]
 by_cases he:(op≠1∧0<rs.length)∨(op≠4∧(mn≠0∨mx≠0))
 · rw[zvj he]
   repeat' (first|(apply z08;(first|refine z0o ?_| (apply z0a;(refine z02 z1k rfl rfl ?_))|(apply z0e;(refine z02 z0t rfl rfl ?_))|(apply z13;(refine z02 (z1o rfl) rfl rfl ?_))|(apply z1s;(refine z0b z3k ?_))))|(apply z07;(first|refine z0m ?_|apply z09|refine z1u ?_| refine ziq rfl rfl (by decide) ?_|refine z2p (fun _=>?_) (fun _=>?_)| refine z4r rfl rfl (fun _=>?_) (fun _=>?_)))|(apply z05;(first|apply z06|apply z00|refine z1a ?_| refine z0v ?_| apply z04|apply z01|refine z5c rfl (fun _=>?_) (fun _=>?_))))
   all_goals try (exfalso;omega)
   all_goals exact z0p Tryz.func104 _ z1c ⟨rfl,rfl⟩
 repeat' (first|(apply z08;(first|refine z0o ?_| (apply z0a;(refine z02 z1k rfl rfl ?_))|(apply z0e;(refine z02 z0t rfl rfl ?_))|(apply z13;(refine z02 (z1o rfl) rfl rfl ?_))|(apply z1s;(refine z0b z3k ?_))))|(apply z07;(first|refine z0m ?_|apply z09|refine z1u ?_| refine ziq rfl rfl (by decide) ?_|refine z2p (fun _=>?_) (fun _=>?_)| refine z4r rfl rfl (fun _=>?_) (fun _=>?_)))|(apply z05;(first|apply z06|apply z00|refine z1a ?_| refine z0v ?_| apply z04|apply z01|refine z5c rfl (fun _=>?_) (fun _=>?_))))
 all_goals try (exfalso;omega)
 all_goals (
  refine z19 ?_
  refine z0c (z1v (fun i:Nat=>⟨101,[(1,.ptr (0,1) 0),(3,I .i64 ks.length),(34,.d (.slice (ks.map rxc))),(35,I .i64 ks.length),(36,I .i64 (i:Nat))],[(1,.box ((rx5 op mn mx rs ks).map .d))],H⟩) (fun i=>i≤ks.length∧(op=4∨z7q op (ks.take i)=true)) (fun i=>ks.length-i) ?_ 0 ⟨zAf _,.inr rfl⟩) rfl rfl
  rintro i ⟨i1,i2⟩ ihl
  by_cases hlt:i<ks.length
  · obtain⟨k,hk2⟩:∃ k,ks[i]? =some k:=⟨_,zA0 hlt⟩
    obtain⟨op',mn',mx',rs',ks'⟩:=k
    have hk':=zep hk2
    have hkt:=zkj (op:=op) hk2
    by_cases hbad:op'=op∧op≠4
    · rw[y3g hk2 hbad.1 hbad.2]
      repeat' (first|(apply z08;(first|refine z0o ?_| (apply z0a;(first|refine z02 z1k rfl rfl ?_| refine z02 z2a rfl rfl ?_))|(apply z0e;(refine z02 z0t rfl rfl ?_))|(apply z0i;(refine z02 (z23 (ys:=ks.map rxc) rfl hk') rfl rfl ?_))|(apply z0r;(refine z02 (z0s z0w) rfl rfl ?_))|(apply z0d;(refine z29 ?_))|(apply z0g;(refine z0b z1f ?_))))|(apply z07;(first|refine z0m ?_|apply z09|refine z1u ?_| refine ziq rfl rfl (by decide) ?_|refine z2p (fun _=>?_) (fun _=>?_)))|(apply z05;(first|apply z06|apply z00|refine z0v ?_| apply z04|apply z01|apply z03|refine z0f (fun _=>?_) (fun _=>?_)| refine z5c rfl (fun _=>?_) (fun _=>?_)|refine z0j ?_)))
      all_goals try (exfalso;omega)
      all_goals exact z0p Tryz.func104 _ z1c ⟨rfl,rfl⟩
    · repeat' (first|(apply z08;(first|refine z0o ?_| (apply z0a;(first|refine z02 z1k rfl rfl ?_| refine z02 z2a rfl rfl ?_))|(apply z0e;(refine z02 z0t rfl rfl ?_))|(apply z0i;(refine z02 (z23 (ys:=ks.map rxc) rfl hk') rfl rfl ?_))|(apply z0r;(refine z02 (z0s z0w) rfl rfl ?_))|(apply z0d;(refine z29 ?_))|(apply z0g;(refine z0b z1f ?_))))|(apply z07;(first|refine z0m ?_|apply z09|refine z1u ?_| refine ziq rfl rfl (by decide) ?_|refine z2p (fun _=>?_) (fun _=>?_)))|(apply z05;(first|apply z06|apply z00|refine z0v ?_| apply z04|apply z01|apply z03|refine z0f (fun _=>?_) (fun _=>?_)| refine z5c rfl (fun _=>?_) (fun _=>?_)|refine z0j ?_)))
      all_goals try (exfalso;omega)
      all_goals exact z0c (ihl (i+1) ⟨by omega,by
       by_cases h4:op=4
       · exact .inl h4
       · rw[hkt,i2.resolve_left h4,Bool.true_and,zA6,zA5]
         exact .inr fun h2=>hbad ⟨h2,h4⟩⟩ (by omega)) rfl rfl
  · obtain rfl:i=ks.length:=by omega
    rw[List.take_length] at i2
    have cv:=znz rs hr
    clear ihl
    have hvl:=y00 he i2
    by_cases o1:op=1
    · subst o1
      repeat' (first|(apply z08;(first|refine z0o ?_| (apply z0a;(refine z02 z1k rfl rfl ?_))|(apply z0e;(refine z02 z0t rfl rfl ?_))|(apply z0q;(refine z0z cv ?_))))|(apply z07;(first|refine z0m ?_|apply z09|refine z1u ?_| refine z2p (fun _=>?_) (fun _=>?_)))|(apply z05;(first|apply z06|apply z00|refine z1a ?_| apply z04|apply z01|refine z0f (fun _=>?_) (fun _=>?_)| refine z0j ?_)))
      all_goals exact zD130
    by_cases o2:op=2
    · subst o2
      all_goals exact zD54
    by_cases o3:op=3
    · subst o3
      all_goals exact zD54
    by_cases o4:op=4
    · subst o4
      repeat' (first|(apply z08;(first|refine z0o ?_| (apply z0a;(refine z02 z1k rfl rfl ?_))|(apply z0e;(refine z02 z0t rfl rfl ?_))))|(apply z07;(first|refine z0m ?_|apply z09|refine z1u ?_| refine ziq rfl rfl (by decide) ?_|refine z2p (fun _=>?_) (fun _=>?_)))|(apply z05;(first|apply z06|apply z00|refine z1a ?_| refine z0v ?_| apply z04|apply z01|refine z0f (fun _=>?_) (fun _=>?_)| refine z0j ?_)))
      all_goals exact zD130
    · repeat' (first|(apply z08;(first|refine z0o ?_| (apply z0a;(refine z02 z1k rfl rfl ?_))|(apply z0e;(refine z02 z0t rfl rfl ?_))))|(apply z07;(first|refine z0m ?_|apply z09|refine z1u ?_| refine ziq rfl rfl (by decide) ?_|refine z2p (fun _=>?_) (fun _=>?_)))|(apply z05;(first|apply z06|apply z00|apply z04|apply z01|apply z03|refine z0f (fun _=>?_) (fun _=>?_)| refine z0j ?_)))
      all_goals try (exfalso;omega)
      all_goals (refine z0p Tryz.func104 _ z1c ⟨?_,rfl⟩;rw[hvl];simp_all <;> omega))
theorem zsk {ks:List Rx} {i:Nat} {k:Rx} (h:ks[i]? =some k):zn4 (ks.drop i)=(vns k&&zn4 (ks.drop (i+1))):=by rw[drop_cons h,zn4]
theorem zho:∀ (e:Rx),fit e→z0y Tryz.prog 54 [.d (Drx e)] (B (vns e)):=by
 refine Rx.ind' fun op mn mx rs ks ih hfit=>?_
 obtain⟨hf1,hf2,hf3⟩:=hfit
 refine z1p fun H=>?_
 refine z0k Tryz.func54 (by kernel_rfl) rfl (by simp) ?_
 rw[Drx,z4k,vns]
 dsimp only[Tryz.f54]
 have cv:=zjq op mn mx rs ks hf1 hf2
 cases hv:vn (.mk op mn mx rs ks) with
 | false =>
  rw[hv] at cv
  repeat' (first|(apply z08;(first|refine z0o ?_| (apply z0a;(refine z02 z2q rfl rfl ?_))|(apply z0q;(refine z0z cv ?_))|(apply z1s;(refine z0b z3k ?_))))|(apply z07;(first|refine z0m ?_|apply z09))|(apply z05;(first|apply z06|apply z00|refine z1a ?_)))
  all_goals try (exfalso;omega)
  exact z0p Tryz.func54 _ z1c ⟨rfl,rfl⟩
 | true =>
  rw[hv] at cv
  rw[Bool.true_and]
  repeat' (first|(apply z08;(first|refine z0o ?_| (apply z0a;(first|refine z02 z2q rfl rfl ?_| refine z02 z1k rfl rfl ?_))|(apply z0e;(refine z02 z0t rfl rfl ?_))|(apply z13;(refine z02 (z1o rfl) rfl rfl ?_))|(apply z0q;(refine z0z cv ?_))|(apply z1s;(refine z0b z3k ?_))))|(apply z07;(first|refine z0m ?_|apply z09))|(apply z05;(first|apply z06|apply z00|refine z0v ?_| apply z04|apply z01)))
  all_goals try (exfalso;omega)
  refine z19 ?_
  refine z0c (z1v (fun i:Nat=>⟨19,[(9,.d (.slice (ks.map rxc))),(10,I .i64 ks.length),(11,I .i64 (i:Nat))],[],H⟩) (fun i=>i≤ks.length∧zn4 (ks.drop i)=zn4 ks) (fun i=>ks.length-i) ?_ 0 ⟨zAf _,rfl⟩) rfl rfl
  rintro i ⟨i1,i2⟩ ihl
  by_cases hlt:i<ks.length
  · obtain⟨k,hk⟩:∃ k,ks[i]? =some k:=⟨_,zA0 hlt⟩
    have c:=ih k (zA2 hk) (zcm hf3 k (zA2 hk))
    rw[zsk hk] at i2
    cases hvk:vns k with
    | true =>
     rw[hvk] at c i2
     rw[Bool.true_and] at i2
     obtain⟨op',mn',mx',rs',ks'⟩:=k
     have hk':=zep hk
     rw[Drx,z4k] at c
     repeat' (first|(apply z08;(first|refine z0o ?_| (apply z0a;(first|refine z02 z2a rfl rfl ?_| refine z02 z2m rfl rfl ?_))|(apply z0i;(refine z02 (z23 (ys:=ks.map rxc) rfl hk') rfl rfl ?_))|(apply z0r;(refine z02 (z0s z0w) rfl rfl ?_))|(apply z0q;(refine z0z c ?_))|(apply z0d;(refine z29 ?_))|(apply z0g;(refine z0b z1f ?_))))|(apply z07;(first|refine z0m ?_|apply z09))|(apply z05;(first|apply z06|apply z00|refine z0v ?_| apply z04|apply z01|apply z03|refine z0f (fun _=>?_) (fun _=>?_)| refine z0j ?_)))
     all_goals try (exfalso;omega)
     exact z0c (ihl (i+1) ⟨by omega,i2⟩ (by omega)) rfl rfl
    | false =>
     rw[hvk] at c i2
     rw[Bool.false_and] at i2
     obtain⟨op',mn',mx',rs',ks'⟩:=k
     have hk':=zep hk
     rw[Drx,z4k] at c
     repeat' (first|(apply z08;(first|refine z0o ?_| (apply z0a;(first|refine z02 z2a rfl rfl ?_| refine z02 z2m rfl rfl ?_))|(apply z0i;(refine z02 (z23 (ys:=ks.map rxc) rfl hk') rfl rfl ?_))|(apply z0q;(refine z0z c ?_))|(apply z0d;(refine z29 ?_))|(apply z0g;(refine z0b z1f ?_))))|(apply z07;(first|refine z0m ?_|apply z09))|(apply z05;(first|apply z06|apply z00|refine z1a ?_| apply z04|apply z01|refine z0f (fun _=>?_) (fun _=>?_)| refine z0j ?_)))
     all_goals try (exfalso;omega)
     refine z0p Tryz.func54 _ z1c ⟨?_,rfl⟩
     rw[← i2]
  · obtain rfl:i=ks.length:=by omega
    rw[zAs,zn4] at i2
    repeat' (first|(apply z08;(refine z0o ?_))|(apply z07;(first|refine z0m ?_|apply z09))|(apply z05;(first|apply z06|apply z00|apply z04|apply z01|refine z0f (fun _=>?_) (fun _=>?_)| refine z0j ?_)))
    all_goals try (exfalso;omega)
    refine z0p Tryz.func54 _ z1c ⟨?_,rfl⟩
    rw[← i2]
theorem y2h {C:Int} (hC:1≤C) (e:Rx) (h:vns e=true):0≤ps C e∧ps C e≤C:=by
 rw[(y4n hC).1 e h]
 have:=ztz.1 e h
 omega
theorem zvp {C:Int} {ks:List Rx} {i:Nat} {k:Rx} (h:ks[i]? =some k) (n:Int):psL C (ks.drop i) n=psL C (ks.drop (i+1)) (min (n+ps C k) C):=by rw[drop_cons h,psL]
theorem zk7:∀ (e:Rx),fit e→vns e=true→z0y Tryz.prog 55 [.d (Drx e)] (I .i64 (ps 65 e)):=by
 refine Rx.ind' fun op mn mx rs ks ih hfit hv=>?_
 obtain⟨hf1,hf2,hf3⟩:=hfit
 rw[vns,zA7] at hv
 refine z1p fun H=>?_
 refine z0k Tryz.func55 (by kernel_rfl) rfl (by simp) ?_
 rw[Drx,z4k,ps]
 dsimp only[Tryz.f55]
 by_cases o1:op=1
 · rw[zAz o1]
   repeat' (first|(apply z08;(first|refine z0o ?_| (apply z0a;(refine z02 z1k rfl rfl ?_))|(apply z0e;(refine z02 z0t rfl rfl ?_))|(apply z13;(refine z02 (z1o rfl) rfl rfl ?_))|(apply z1s;(refine z0b z3k ?_))))|(apply z07;(first|refine z0m ?_|apply z09))|(apply z05;(first|apply z06|apply z00|apply z04|apply z01|refine z0f (fun _=>?_) (fun _=>?_))))
   all_goals try (exfalso;omega)
   exact z0p Tryz.func55 _ z1c ⟨rfl,rfl⟩
 rw[zAy o1]
 repeat' (first|(apply z08;(first|refine z0o ?_| (apply z0a;(refine z02 z1k rfl rfl ?_))|(apply z0e;(refine z02 z0t rfl rfl ?_))|(apply z13;(refine z02 (z1o rfl) rfl rfl ?_))|(apply z1s;(refine z0b z3k ?_))))|(apply z07;(first|refine z0m ?_|apply z09))|(apply z05;(first|apply z06|apply z00|apply z04|apply z01|refine z0f (fun _=>?_) (fun _=>?_))))
 all_goals try (exfalso;omega)
 refine z19 ?_
 refine z0c (z1v (fun q:Nat × Int=>⟨42,[(1,.ptr (0,1) 0),(3,I .i64 q.2),(10,.d (.slice (ks.map rxc))),(11,I .i64 ks.length),(12,I .i64 (q.1:Nat))],[(1,.box ((rx5 op mn mx rs ks).map .d))],H⟩) (fun q=>q.1≤ks.length∧0≤q.2∧q.2≤65∧psL 65 (ks.drop q.1) q.2=psL 65 ks 0) (fun q=>ks.length-q.1) ?_ (0,0) ⟨zAf _,by simp,by simp,rfl⟩) rfl rfl
 rintro⟨i,a⟩ ⟨i1,i2,i3,i4⟩ ihl
 simp only at i1 i2 i3 i4 ihl ⊢
 by_cases hlt:i<ks.length
 · obtain⟨k,hk⟩:∃ k,ks[i]? =some k:=⟨_,zA0 hlt⟩
   have hkv:=za3 hv.2 k (zA2 hk)
   have c:=ih k (zA2 hk) (zcm hf3 k (zA2 hk)) hkv
   have hr:=y2h (C:=65) (by decide) k hkv
   rw[zvp hk] at i4
   generalize ps 65 k=pk at c hr i4
   obtain⟨op',mn',mx',rs',ks'⟩:=k
   have hk':=zep hk
   rw[Drx,z4k] at c
   repeat' (first|(apply z08;(first|refine z0o ?_| (apply z0a;(first|refine z02 z1k rfl rfl ?_| refine z02 z2a rfl rfl ?_| refine z02 z2m rfl rfl ?_))|(apply z0e;(refine z02 z0t rfl rfl ?_))|(apply z0i;(refine z02 (z23 (ys:=ks.map rxc) rfl hk') rfl rfl ?_))|(apply z0r;(first|refine z02 (z0s z0w) rfl rfl ?_| refine z02 (z6x z0w) rfl rfl ?_))|(apply z13;(first|refine z02 zub rfl rfl ?_| refine z02 zv6 rfl rfl ?_))|(apply z0q;(refine z0z c ?_))|(apply z0d;(refine z29 ?_))|(apply z0g;(refine z0b z1f ?_))))|(apply z07;(first|refine z0m ?_|apply z09))|(apply z05;(first|apply z06|apply z00|apply z04|apply z01|apply z03|refine z0f (fun _=>?_) (fun _=>?_)| refine z5c rfl (fun _=>?_) (fun _=>?_)|refine z0j ?_)))
   all_goals try (exfalso;omega)
   exact z0c (ihl (i+1,min (a+pk) 65) ⟨by simp only;omega,by simp only;omega,by simp only;omega,i4⟩ (by simp only;omega)) rfl rfl
 · obtain rfl:i=ks.length:=by omega
   rw[zAs,psL] at i4
   subst i4
   by_cases o4:op=4
   · rw[zAz o4]
     rcases z7j hv.1 with h|h|h|⟨_,_,_,h1,h2,h3⟩
     · exact absurd (h.1.symm.trans o4) (by decide)
     · exact absurd (h.1.symm.trans o4) (by decide)
     · exact absurd (h.1.symm.trans o4) (by decide)
     have m1:(psL 65 ks 0)*max mn 1≤65*16:=Int.mul_le_mul i3 (by omega) (by omega) (by decide)
     have m2:0≤(psL 65 ks 0)*max mn 1:=Int.mul_nonneg i2 (by omega)
     have m3:mx≠-1→(psL 65 ks 0)*mx≤65*16:=fun h=>Int.mul_le_mul i3 (by omega) (by omega) (by decide)
     have m4:mx≠-1→0≤(psL 65 ks 0)*mx:=fun h=>Int.mul_nonneg i2 (by omega)
     rw[rep]
     by_cases hm:mx=-1
     · rw[zAz hm]
       exact zD41
     · rw[zAy hm]
       have m5:=m3 hm
       have m6:=m4 hm
       exact zD41
   · rw[zAy o4]
     repeat' (first|(apply z08;(first|refine z0o ?_| (apply z0a;(refine z02 z1k rfl rfl ?_))|(apply z0e;(refine z02 z0t rfl rfl ?_))|(apply z0r;(refine z02 (z6x z0w) rfl rfl ?_))|(apply z13;(first|refine z02 zub rfl rfl ?_| refine z02 zv6 rfl rfl ?_))))|(apply z07;(first|refine z0m ?_|apply z09))|(apply z05;(first|apply z06|apply z00|apply z04|apply z01|apply z03|refine z0f (fun _=>?_) (fun _=>?_)| refine z5c rfl (fun _=>?_) (fun _=>?_)|refine z0j ?_)))
     all_goals try (exfalso;omega)
     refine z0p Tryz.func55 _ z1c ⟨?_,rfl⟩
     rw[Int.min_eq_left i3]
theorem zes (e:Rx) (hfit:fit e):z0y Tryz.prog 29 [.d (Drx e)] (I .i64 (val e)):=by
 refine z1p fun H=>?_
 refine z0k Tryz.func29 (by kernel_rfl) rfl (by simp) ?_
 have c1:=zzj 3 e hfit 1 0 0 (by decide) (by decide) (by decide) (by decide)
 have c2:=zho e hfit
 have c3:=fun h=>zk7 e hfit h
 rw[y55]
 generalize sm e 1 0=r at c1
 obtain⟨rb,rn⟩:=r
 simp only at c1 ⊢
 generalize ps 65 e=pe at c3
 generalize vns e=ve at c2 c3
 obtain⟨op,mn,mx,rs,ks⟩:=e
 rw[Drx,z4k] at *
 dsimp only[Tryz.f29]
 cases rb with
 | false =>
  repeat' (first|(apply z08;(first|refine z0o ?_| (apply z0a;(refine z02 z2q rfl rfl ?_))|(apply z0q;(refine z4c c1 rfl rfl (by decide) ?_))|(apply z0d;(refine z29 ?_))|(apply z0g;(refine z0b z1f ?_))|(apply z1s;(refine z0b z3k ?_))))|(apply z07;(first|refine z0m ?_|apply z09))|(apply z05;(first|apply z06|apply z00|refine z1a ?_| apply z01)))
  all_goals try (exfalso;omega)
  exact z0p Tryz.func29 _ z1c ⟨rfl,rfl⟩
 | true =>
  cases ve with
  | false =>
   repeat' (first|(apply z08;(first|refine z0o ?_| (apply z0a;(refine z02 z2q rfl rfl ?_))|(apply z0q;(first|refine z4c c1 rfl rfl (by decide) ?_|refine z0z c2 ?_))|(apply z0d;(refine z29 ?_))|(apply z0g;(refine z0b z1f ?_))|(apply z1s;(refine z0b z3k ?_))))|(apply z07;(first|refine z0m ?_|apply z09))|(apply z05;(first|apply z06|apply z00|refine z1a ?_| refine z0v ?_| apply z01)))
   all_goals try (exfalso;omega)
   exact z0p Tryz.func29 _ z1c ⟨rfl,rfl⟩
  | true =>
   have c4:=c3 rfl
   by_cases hp:64<pe
   · exact zD42
   · exact zD42
end Go.Proofs.YthdfkabdoidjfaaGreatDoor
