/- A part of the proof: G1 to G3. -/
import Derived.Test.YthdfkabdoidjfaaGreatDoorQt
set_option linter.all false
namespace Go.Proofs.YthdfkabdoidjfaaGreatDoor
open Go.Ab Go.Rx
set_option maxHeartbeats 20000000
set_option maxRecDepth 100000
attribute [local irreducible] Run Ops Op1 z2i Val Tr z0z z27 NF Rel z3r z3s
abbrev cnt (n:Int):Blk:=.box [I .i64 n]
theorem y5b (e:Rx) (d n:Int) (hd:1≤d) (h0:0≤n) (h1:n≤200) (h:(sm e d n).1=true):0≤(sm e d n).2∧(sm e d n).2≤200:=by
 have:=zpa.1 e d n hd h0 h1
 split at this
 · rw[this];simp only;omega
 · rw[this] at h;cases h
theorem zva {ks:List Rx} {i:Nat} {k:Rx} (h:ks[i]? =some k) (d n:Int):smL (ks.drop i) d n=if (sm k d n).1=true then smL (ks.drop (i+1)) d (sm k d n).2 else (false,(sm k d n).2):=by
 rw[drop_cons h,smL]
theorem zzn (X:Nat):∀ (e:Rx),fit e→∀ (d n:Int) (e0:Nat),1≤d→d≤100→0≤n→n≤200→z27 Tryz.prog 53 [.d (Drx e),I .i64 d,.ptr (e0,X) 0] [((e0,X),cnt n)] [((e0,X),cnt (sm e d n).2)] (B (sm e d n).1):=by
 refine Rx.ind' fun op mn mx rs ks ih hfit d n e0 hd hd1 h0 h1=>?_
 obtain⟨hf1,hf2,hf3⟩:=hfit
 refine z2f fun H hH=>?_
 have hX:H e0 X=some (cnt n):=hH ((e0,X),cnt n) (by simp)
 refine z0m Tryz.func53 (by kernel_rfl) rfl (by simp) ?_
 rw[Drx,z4m,sm]
 dsimp only[Tryz.f53]
 by_cases hb:smB d (n+1)=true
 · rw[zAz hb]
   have hb':=hb
   simp only[smB,zAu,zA3] at hb'
   repeat' (first|(apply z07;(first|refine z0p ?_| (apply z0a;(first|refine z02 (z1m (b:=cnt (n+1))) rfl (bkN (z43 H (e0,X) (cnt (n+1)))) ?_| refine z02 (z1m (b:=cnt n)) rfl (bkN hX) ?_| refine z02 z1m rfl rfl ?_))|(apply z0e;(refine z02 z0s rfl rfl ?_))|(apply z0n;(refine z02 (z0r z0y) rfl rfl ?_))|(apply z14;(refine z02 (z1j rfl) rfl rfl ?_))|(apply z0d;(refine z4w (raw:=cnt n) (raw':=cnt (n+1)) rfl hX rfl rfl rfl rfl rfl rfl ?_))|(apply z1y;(refine z0b z2e ?_))))|(apply z08;(first|refine z0o ?_|apply z09|refine z1w ?_| refine z2m (fun _=>?_) (fun _=>?_)))|(apply z05;(first|apply z06|apply z00|refine z1d ?_| apply z04|apply z01|refine z0f (fun _=>?_) (fun _=>?_))))
   all_goals try (exfalso;omega)
   all_goals exact z0q Tryz.func53 _ z1e ⟨rfl,rfl⟩
 · rw[zAy hb]
   have hb':=hb
   simp only[smB,zAu,zA3,not_or] at hb'
   repeat' (first|(apply z07;(first|refine z0p ?_| (apply z0a;(first|refine z02 (z1m (b:=cnt (n+1))) rfl (bkN (z43 H (e0,X) (cnt (n+1)))) ?_| refine z02 (z1m (b:=cnt n)) rfl (bkN hX) ?_| refine z02 z1m rfl rfl ?_))|(apply z0e;(refine z02 z0s rfl rfl ?_))|(apply z0n;(refine z02 (z0r z0y) rfl rfl ?_))|(apply z14;(refine z02 (z1j rfl) rfl rfl ?_))|(apply z0d;(refine z4w (raw:=cnt n) (raw':=cnt (n+1)) rfl hX rfl rfl rfl rfl rfl rfl ?_))|(apply z1y;(refine z0b z2e ?_))))|(apply z08;(first|refine z0o ?_|apply z09|refine z1w ?_| refine z2m (fun _=>?_) (fun _=>?_)))|(apply z05;(first|apply z06|apply z00|refine z1d ?_| apply z04|apply z01|refine z0f (fun _=>?_) (fun _=>?_))))
   all_goals try (exfalso;omega)
   refine z16 ?_
   refine z0c (z1u (fun q:Nat × Int=>⟨36,[(1,I .i64 d),(2,.ptr (e0+1,X) 0),(23,.d (.slice (ks.map rxc))),(24,I .i64 ks.length),(25,I .i64 (q.1:Nat))],[],upd H (e0,X) (cnt q.2)⟩) (fun q=>q.1≤ks.length∧0≤q.2∧q.2≤200∧smL (ks.drop q.1) (d+1) q.2=smL ks (d+1) (n+1)) (fun q=>ks.length-q.1) ?_ (0,n+1) ⟨zAf _,by simp only;omega,by simp only;omega,rfl⟩) rfl rfl
   rintro⟨i,m⟩ ⟨i1,i2,i3,i4⟩ ihl
   simp only at i1 i2 i3 i4 ihl ⊢
   by_cases hlt:i<ks.length
   · obtain⟨k,hk⟩:∃ k,ks[i]? =some k:=⟨_,zA0 hlt⟩
     rw[zva hk] at i4
     have c:=ih k (zA2 hk) (zcg hf3 k (zA2 hk)) (d+1) m (e0+1) (by omega) (by omega) i2 i3
     have hle:=y5b k (d+1) m (by omega) i2 i3
     generalize sm k (d+1) m=r at c i4 hle
     obtain⟨rb,rn⟩:=r
     simp only at c i4 hle
     obtain⟨op',mn',mx',rs',ks'⟩:=k
     have hk':=zet hk
     rw[Drx,z4m] at c
     cases rb with
     | true =>
      obtain⟨hle1,hle2⟩:=hle rfl
      rw[zAz rfl] at i4
      repeat' (first|(apply z07;(first|refine z0p ?_| (apply z0a;(first|refine z02 z2o rfl rfl ?_| refine z02 z2j rfl rfl ?_))|(apply z0i;(refine z02 (z0v (ys:=ks.map rxc) rfl hk') rfl rfl ?_))|(apply z0n;(refine z02 (z0r z0y) rfl rfl ?_))|(apply z0u;(refine zme c rfl (z43 H (e0,X) (cnt m)) (by decide) ?_))|(apply z0d;(refine z2g ?_))|(apply z0k;(refine z0b z2q ?_))))|(apply z08;(first|refine z0o ?_|apply z09))|(apply z05;(first|apply z06|apply z00|refine z0w ?_| apply z04|apply z01|apply z03|refine z0f (fun _=>?_) (fun _=>?_)| refine z0h ?_)))
      all_goals try (exfalso;omega)
      rw[z4j]
      exact z0c (ihl (i+1,rn) ⟨by simp only;omega,hle1,hle2,i4⟩ (by simp only;omega)) rfl rfl
     | false =>
      rw[zAy (by simp)] at i4
      rw[← i4]
      repeat' (first|(apply z07;(first|refine z0p ?_| (apply z0a;(first|refine z02 z2o rfl rfl ?_| refine z02 z2j rfl rfl ?_))|(apply z0i;(refine z02 (z0v (ys:=ks.map rxc) rfl hk') rfl rfl ?_))|(apply z0n;(refine z02 (z0r z0y) rfl rfl ?_))|(apply z0u;(refine zme c rfl (z43 H (e0,X) (cnt m)) (by decide) ?_))|(apply z0d;(refine z2g ?_))|(apply z0k;(refine z0b z2q ?_))))|(apply z08;(first|refine z0o ?_|apply z09))|(apply z05;(first|apply z06|apply z00|refine z1d ?_| apply z04|apply z01|refine z0f (fun _=>?_) (fun _=>?_)| refine z0h ?_)))
      all_goals try (exfalso;omega)
      refine z0q Tryz.func53 _ z1e ⟨rfl,?_⟩
      exact z4j _ _ _ _
   · obtain rfl:i=ks.length:=by omega
     rw[zAs,smL] at i4
     rw[← i4]
     repeat' (first|(apply z07;(refine z0p ?_))|(apply z08;(first|refine z0o ?_|apply z09))|(apply z05;(first|apply z06|apply z00|apply z04|apply z01|refine z0f (fun _=>?_) (fun _=>?_)| refine z0h ?_)))
     all_goals try (exfalso;omega)
     exact z0q Tryz.func53 _ z1e ⟨rfl,rfl⟩
theorem zo4 {l:List Rg} {i:Nat} {r:Rg} (h:l[i]? =some r) (a:Int):zec a (l.drop i)=(decide (a≤r.1)&&decide (r.1≤r.2)&&decide (r.2≤1114111)&&zec (r.2+2) (l.drop (i+1))):=by
 rw[drop_cons h,zec]
def prv (l:List Rg) (i:Nat) (a:Int):Prop:=(i=0∧a=0)∨(0<i∧∃ p,l[i-1]? =some p∧a=p.2+2∧0≤p.2∧p.2≤1114111)
theorem znn (l:List Rg) (hl:l.length≤9223372036854775807):z0z Tryz.prog 118 [.d (rgs l)] (B (zqg l)):=by
 refine z1l fun H=>?_
 refine z0m Tryz.func118 (by kernel_rfl) rfl (by simp) ?_
 dsimp only[Tryz.f118]
 repeat' (first|(apply z07;(first|refine z0p ?_| (apply z14;(refine z02 (z1j rfl) rfl rfl ?_))))|(apply z08;(first|refine z0o ?_|apply z09))|(apply z05;(first|apply z06|apply z00|apply z01)))
 all_goals try (exfalso;omega)
 refine z16 ?_
 refine z0c (z1u (fun q:Nat × Int=>⟨47,[(0,.d (rgs l)),(5,.d (rgs l)),(6,I .i64 l.length),(7,I .i64 (q.1:Nat))],[],H⟩) (fun q=>q.1≤l.length∧prv l q.1 q.2∧zec q.2 (l.drop q.1)=zec 0 l) (fun q=>l.length-q.1) ?_ (0,0) ⟨zAf _,.inl ⟨rfl,rfl⟩,rfl⟩) rfl rfl
 rintro⟨i,a⟩ ⟨i1,i2,i3⟩ ih
 simp only at i1 i2 i3 ih ⊢
 by_cases hlt:i<l.length
 · obtain⟨r,hr⟩:∃ r,l[i]? =some r:=⟨_,zA0 hlt⟩
   rw[zo4 hr] at i3
   by_cases hgd:a≤r.1∧r.1≤r.2∧r.2≤1114111
   · rw[zAi hgd.1,zAi hgd.2.1,zAi hgd.2.2,Bool.true_and,Bool.true_and,Bool.true_and] at i3
     rcases i2 with ⟨rfl,rfl⟩|⟨hi,p,hp,rfl,hp0,hp1⟩
     · repeat' (first|(apply z07;(first|refine z0p ?_| (apply z0a;(refine z02 z2o rfl rfl ?_))|(apply z0i;(refine z02 (z0v (ys:=l.map rgc) rfl (idx hr)) rfl rfl ?_))|(apply z0n;(refine z02 (z0r z0y) rfl rfl ?_))|(apply z14;(refine z02 (z1j rfl) rfl rfl ?_))|(apply z0d;(refine z2g ?_))|(apply z0k;(refine z0b z2q ?_))))|(apply z08;(first|refine z0o ?_|apply z09))|(apply z05;(first|apply z06|apply z00|refine z1d ?_| refine z0w ?_| apply z04|apply z01|apply z23|apply z03|refine z0f (fun _=>?_) (fun _=>?_)| refine z0h ?_))|(apply z25;(first|(apply z0t;refine z1b mix ?_)|refine z1z ?_| refine zg3 rfl rfl (by decide) ?_|refine z29 ?_| (apply z0j;(refine z0g z1m rfl rfl ?_))|(apply z13;(refine z0g z0s rfl rfl ?_))|(refine z0x rfl rfl (fun hg=>?_) (fun hg=>?_) <;> simp only[hg] <;> (try simp only[zA3,zA5,zA6,zA8] at hg)))))
       all_goals try (exfalso;omega)
       all_goals exact z0c (ih (1,r.2+2) ⟨by simp only;omega,.inr ⟨by simp,r,hr,rfl,by omega,hgd.2.2⟩,i3⟩ (by simp only;omega)) rfl rfl
     · have hp':l[((i:Int)-1).toNat]? =some p:=by rw[← hp];congr 1;omega
       repeat' (first|(apply z07;(first|refine z0p ?_| (apply z0a;(refine z02 z2o rfl rfl ?_))|(apply z0i;(refine z02 (z0v (ys:=l.map rgc) rfl (idx hr)) rfl rfl ?_))|(apply z0n;(refine z02 (z0r z0y) rfl rfl ?_))|(apply z14;(refine z02 (z1j rfl) rfl rfl ?_))|(apply z0d;(refine z2g ?_))|(apply z0k;(refine z0b z2q ?_))))|(apply z08;(first|refine z0o ?_|apply z09))|(apply z05;(first|apply z06|apply z00|refine z1d ?_| refine z0w ?_| apply z04|apply z01|apply z23|apply z03|refine z0f (fun _=>?_) (fun _=>?_)| refine z0h ?_))|(apply z25;(first|(apply z0t;refine z1b mix ?_)|refine z1z ?_| refine zg3 rfl rfl (by decide) ?_|refine z29 ?_| (apply z0j;(first|refine z0g z1m rfl rfl ?_| refine z0g z22 rfl rfl ?_))|(apply z13;(first|refine z0g z0s rfl rfl ?_| refine z0g (z6h rfl rfl) rfl rfl ?_))|(apply z0l;(refine z0g (z0v (ys:=l.map rgc) rfl (z5o hp')) rfl rfl ?_))|(apply z1q;(first|refine z0g (z0r (z9j (by omega) (by omega))) rfl rfl ?_| refine z0g (z1g z0y) rfl rfl ?_))|(refine z0x rfl rfl (fun hg=>?_) (fun hg=>?_) <;> simp only[hg] <;> (try simp only[zA3,zA5,zA6,zA8] at hg)))))
       all_goals try (exfalso;omega)
       all_goals exact z0c (ih (i+1,r.2+2) ⟨by simp only;omega,.inr ⟨by simp,r,by simpa using hr,rfl,by omega,hgd.2.2⟩,i3⟩ (by simp only;omega)) rfl rfl
   · have hb:zqg l=false:=by
      rw[zqg,← i3]
      have:(decide (a≤r.1)&&decide (r.1≤r.2)&&decide (r.2≤1114111))=false:=by
       rw[← Bool.decide_and,← Bool.decide_and,zA5]
       exact fun h=>hgd ⟨h.1.1,h.1.2,h.2⟩
      rw[this];rfl
     rw[hb]
     rcases i2 with ⟨rfl,rfl⟩|⟨hi,p,hp,rfl,hp0,hp1⟩
     · repeat' (first|(apply z07;(first|refine z0p ?_| (apply z0a;(refine z02 z2o rfl rfl ?_))|(apply z0i;(refine z02 (z0v (ys:=l.map rgc) rfl (idx hr)) rfl rfl ?_))|(apply z0n;(refine z02 (z0r z0y) rfl rfl ?_))|(apply z14;(refine z02 (z1j rfl) rfl rfl ?_))|(apply z0d;(refine z2g ?_))|(apply z0k;(refine z0b z2q ?_))))|(apply z08;(first|refine z0o ?_|apply z09))|(apply z05;(first|apply z06|apply z00|refine z1d ?_| refine z0w ?_| apply z04|apply z01|apply z23|apply z03|refine z0f (fun _=>?_) (fun _=>?_)| refine z0h ?_))|(apply z25;(first|(apply z0t;refine z1b mix ?_)|refine z1z ?_| refine zg3 rfl rfl (by decide) ?_|refine z29 ?_| (apply z0j;(refine z0g z1m rfl rfl ?_))|(apply z13;(refine z0g z0s rfl rfl ?_))|(refine z0x rfl rfl (fun hg=>?_) (fun hg=>?_) <;> simp only[hg] <;> (try simp only[zA3,zA5,zA6,zA8] at hg)))))
       all_goals try (exfalso;omega)
       all_goals exact z0q Tryz.func118 _ z1e ⟨rfl,rfl⟩
     · have hp':l[((i:Int)-1).toNat]? =some p:=by rw[← hp];congr 1;omega
       repeat' (first|(apply z07;(first|refine z0p ?_| (apply z0a;(refine z02 z2o rfl rfl ?_))|(apply z0i;(refine z02 (z0v (ys:=l.map rgc) rfl (idx hr)) rfl rfl ?_))|(apply z0n;(refine z02 (z0r z0y) rfl rfl ?_))|(apply z14;(refine z02 (z1j rfl) rfl rfl ?_))|(apply z0d;(refine z2g ?_))|(apply z0k;(refine z0b z2q ?_))))|(apply z08;(first|refine z0o ?_|apply z09))|(apply z05;(first|apply z06|apply z00|refine z1d ?_| refine z0w ?_| apply z04|apply z01|apply z23|apply z03|refine z0f (fun _=>?_) (fun _=>?_)| refine z0h ?_))|(apply z25;(first|(apply z0t;refine z1b mix ?_)|refine z1z ?_| refine zg3 rfl rfl (by decide) ?_|refine z29 ?_| (apply z0j;(first|refine z0g z1m rfl rfl ?_| refine z0g z22 rfl rfl ?_))|(apply z13;(first|refine z0g z0s rfl rfl ?_| refine z0g (z6h rfl rfl) rfl rfl ?_))|(apply z0l;(refine z0g (z0v (ys:=l.map rgc) rfl (z5o hp')) rfl rfl ?_))|(apply z1q;(first|refine z0g (z0r (z9j (by omega) (by omega))) rfl rfl ?_| refine z0g (z1g z0y) rfl rfl ?_))|(refine z0x rfl rfl (fun hg=>?_) (fun hg=>?_) <;> simp only[hg] <;> (try simp only[zA3,zA5,zA6,zA8] at hg)))))
       all_goals try (exfalso;omega)
       all_goals exact z0q Tryz.func118 _ z1e ⟨rfl,rfl⟩
 · obtain rfl:i=l.length:=by omega
   rw[zAs,zec] at i3
   rw[zqg,← i3,Bool.true_and]
   repeat' (first|(apply z07;(first|refine z0p ?_| (apply z14;(refine z02 (z1j rfl) rfl rfl ?_))))|(apply z08;(first|refine z0o ?_|apply z09))|(apply z05;(first|apply z06|apply z00|apply z04|apply z01|refine z0f (fun _=>?_) (fun _=>?_)| refine z0h ?_)))
   all_goals try (exfalso;omega)
   refine z0q Tryz.func118 _ z1e ⟨?_,rfl⟩
   congr 3;simp
theorem zj0 {op:Int} {ks:List Rx} {i:Nat} {k:Rx} (h:ks[i]? =some k):z7r op (ks.take (i+1))=(z7r op (ks.take i)&&!decide (k.op=op)):=by
 rw[z5s h,z7r,List.all_append];simp[z7r]
theorem zee {op:Int} {ks:List Rx} {i:Nat} {k:Rx} (h:ks[i]? =some k) (hk:k.op=op):z7r op ks=false:=by
 rw[Bool.eq_false_iff]
 intro h2
 have:=List.all_eq_true.1 h2 k (zA2 h)
 rw[hk] at this;simp at this
theorem zua {op mn mx:Int} {rs:List Rg} {ks:List Rx} (h:(op≠1∧0<rs.length)∨(op≠4∧(mn≠0∨mx≠0))):vn (.mk op mn mx rs ks)=false:=by
 rw[Bool.eq_false_iff]
 intro h2
 rcases z7e h2 with ⟨rfl,rfl,rfl,rfl,_⟩|⟨rfl,rfl,rfl,rfl,_⟩|⟨rfl,rfl,rfl,rfl,_⟩|⟨rfl,rfl,_⟩ <;> simp at h <;> omega
theorem y3b {op mn mx:Int} {rs:List Rg} {ks:List Rx} {i:Nat} {k:Rx} (hk:ks[i]? =some k) (h:k.op=op) (h4:op≠4):vn (.mk op mn mx rs ks)=false:=by
 rw[Bool.eq_false_iff]
 intro h2
 rcases z7e h2 with ⟨rfl,rfl,rfl,rfl,_⟩|⟨rfl,rfl,rfl,rfl,_,h3⟩|⟨rfl,rfl,rfl,rfl,_,h3⟩|⟨rfl,_⟩
 · simp at hk
 · rw[zee hk h] at h3;cases h3
 · rw[zee hk h] at h3;cases h3
 · exact h4 rfl
theorem zy9 {op mn mx:Int} {rs:List Rg} {ks:List Rx} (he:¬ ((op≠1∧0<rs.length)∨(op≠4∧(mn≠0∨mx≠0)))) (h:op=4∨z7r op ks=true):vn (.mk op mn mx rs ks) =
 if op=1 then decide (ks.length=0)&&zqg rs else if op=2 then !decide (ks.length=1) else if op=3 then decide (1<ks.length)
 else if op=4 then decide (ks.length=1)&&decide (0≤mn)&&decide (mn≤16)&&(decide (mx=-1)||(decide (mn≤mx)&&decide (mx≤16))) else false:=by
 rw[vn]
 have hrs:op≠1→rs.length=0:=by omega
 by_cases o4:op=4
 · subst o4;simp[hrs]
 have hk:=h.resolve_left o4
 have hmn:mn=0:=by omega
 have hmx:mx=0:=by omega
 subst hmn hmx
 by_cases o1:op=1
 · subst o1;simp
 have:=hrs o1
 simp[o1,o4,hk,this]
theorem zk6 (op mn mx:Int) (rs:List Rg) (ks:List Rx) (hr:rs.length≤9223372036854775807) (hk:ks.length≤9223372036854775807):z0z Tryz.prog 104 [.d (.agg (rx5 op mn mx rs ks))] (B (vn (.mk op mn mx rs ks))):=by
 refine z1l fun H=>?_
 refine z0m Tryz.func104 (by kernel_rfl) rfl (by simp) ?_
 dsimp only[Tryz.f104]
 by_cases he:(op≠1∧0<rs.length)∨(op≠4∧(mn≠0∨mx≠0))
 · rw[zua he]
   repeat' (first|(apply z07;(first|refine z0p ?_| (apply z0a;(refine z02 z1m rfl rfl ?_))|(apply z0e;(refine z02 z0s rfl rfl ?_))|(apply z14;(refine z02 (z1j rfl) rfl rfl ?_))|(apply z1y;(refine z0b z2e ?_))))|(apply z08;(first|refine z0o ?_|apply z09|refine z1w ?_| refine zdr rfl rfl (by decide) ?_|refine z2m (fun _=>?_) (fun _=>?_)| refine z61 rfl rfl (fun _=>?_) (fun _=>?_)))|(apply z05;(first|apply z06|apply z00|refine z1d ?_| refine z0w ?_| apply z04|apply z01|refine z4i rfl (fun _=>?_) (fun _=>?_))))
   all_goals try (exfalso;omega)
   all_goals exact z0q Tryz.func104 _ z1e ⟨rfl,rfl⟩
 repeat' (first|(apply z07;(first|refine z0p ?_| (apply z0a;(refine z02 z1m rfl rfl ?_))|(apply z0e;(refine z02 z0s rfl rfl ?_))|(apply z14;(refine z02 (z1j rfl) rfl rfl ?_))|(apply z1y;(refine z0b z2e ?_))))|(apply z08;(first|refine z0o ?_|apply z09|refine z1w ?_| refine zdr rfl rfl (by decide) ?_|refine z2m (fun _=>?_) (fun _=>?_)| refine z61 rfl rfl (fun _=>?_) (fun _=>?_)))|(apply z05;(first|apply z06|apply z00|refine z1d ?_| refine z0w ?_| apply z04|apply z01|refine z4i rfl (fun _=>?_) (fun _=>?_))))
 all_goals try (exfalso;omega)
 all_goals (
  refine z16 ?_
  refine z0c (z1u (fun i:Nat=>⟨101,[(1,.ptr (0,1) 0),(3,I .i64 ks.length),(34,.d (.slice (ks.map rxc))),(35,I .i64 ks.length),(36,I .i64 (i:Nat))],[(1,.box ((rx5 op mn mx rs ks).map .d))],H⟩) (fun i=>i≤ks.length∧(op=4∨z7r op (ks.take i)=true)) (fun i=>ks.length-i) ?_ 0 ⟨zAf _,.inr rfl⟩) rfl rfl
  rintro i ⟨i1,i2⟩ ihl
  by_cases hlt:i<ks.length
  · obtain⟨k,hk2⟩:∃ k,ks[i]? =some k:=⟨_,zA0 hlt⟩
    obtain⟨op',mn',mx',rs',ks'⟩:=k
    have hk':=zet hk2
    have hkt:=zj0 (op:=op) hk2
    by_cases hbad:op'=op∧op≠4
    · rw[y3b hk2 hbad.1 hbad.2]
      repeat' (first|(apply z07;(first|refine z0p ?_| (apply z0a;(first|refine z02 z1m rfl rfl ?_| refine z02 z2o rfl rfl ?_))|(apply z0e;(refine z02 z0s rfl rfl ?_))|(apply z0i;(refine z02 (z0v (ys:=ks.map rxc) rfl hk') rfl rfl ?_))|(apply z0n;(refine z02 (z0r z0y) rfl rfl ?_))|(apply z0d;(refine z2g ?_))|(apply z0k;(refine z0b z2q ?_))))|(apply z08;(first|refine z0o ?_|apply z09|refine z1w ?_| refine zdr rfl rfl (by decide) ?_|refine z2m (fun _=>?_) (fun _=>?_)))|(apply z05;(first|apply z06|apply z00|refine z0w ?_| apply z04|apply z01|apply z03|refine z0f (fun _=>?_) (fun _=>?_)| refine z4i rfl (fun _=>?_) (fun _=>?_)|refine z0h ?_)))
      all_goals try (exfalso;omega)
      all_goals exact z0q Tryz.func104 _ z1e ⟨rfl,rfl⟩
    · repeat' (first|(apply z07;(first|refine z0p ?_| (apply z0a;(first|refine z02 z1m rfl rfl ?_| refine z02 z2o rfl rfl ?_))|(apply z0e;(refine z02 z0s rfl rfl ?_))|(apply z0i;(refine z02 (z0v (ys:=ks.map rxc) rfl hk') rfl rfl ?_))|(apply z0n;(refine z02 (z0r z0y) rfl rfl ?_))|(apply z0d;(refine z2g ?_))|(apply z0k;(refine z0b z2q ?_))))|(apply z08;(first|refine z0o ?_|apply z09|refine z1w ?_| refine zdr rfl rfl (by decide) ?_|refine z2m (fun _=>?_) (fun _=>?_)))|(apply z05;(first|apply z06|apply z00|refine z0w ?_| apply z04|apply z01|apply z03|refine z0f (fun _=>?_) (fun _=>?_)| refine z4i rfl (fun _=>?_) (fun _=>?_)|refine z0h ?_)))
      all_goals try (exfalso;omega)
      all_goals exact z0c (ihl (i+1) ⟨by omega,by
       by_cases h4:op=4
       · exact .inl h4
       · rw[hkt,i2.resolve_left h4,Bool.true_and,zA6,zA5]
         exact .inr fun h2=>hbad ⟨h2,h4⟩⟩ (by omega)) rfl rfl
  · obtain rfl:i=ks.length:=by omega
    rw[List.take_length] at i2
    have cv:=znn rs hr
    clear ihl
    have hvl:=zy9 he i2
    by_cases o1:op=1
    · subst o1
      repeat' (first|(apply z07;(first|refine z0p ?_| (apply z0a;(refine z02 z1m rfl rfl ?_))|(apply z0e;(refine z02 z0s rfl rfl ?_))|(apply z0u;(refine z1o cv ?_))))|(apply z08;(first|refine z0o ?_|apply z09|refine z1w ?_| refine z2m (fun _=>?_) (fun _=>?_)))|(apply z05;(first|apply z06|apply z00|refine z1d ?_| apply z04|apply z01|refine z0f (fun _=>?_) (fun _=>?_)| refine z0h ?_)))
      all_goals exact zD124
    by_cases o2:op=2
    · subst o2
      all_goals exact zD52
    by_cases o3:op=3
    · subst o3
      all_goals exact zD52
    by_cases o4:op=4
    · subst o4
      repeat' (first|(apply z07;(first|refine z0p ?_| (apply z0a;(refine z02 z1m rfl rfl ?_))|(apply z0e;(refine z02 z0s rfl rfl ?_))))|(apply z08;(first|refine z0o ?_|apply z09|refine z1w ?_| refine zdr rfl rfl (by decide) ?_|refine z2m (fun _=>?_) (fun _=>?_)))|(apply z05;(first|apply z06|apply z00|refine z1d ?_| refine z0w ?_| apply z04|apply z01|refine z0f (fun _=>?_) (fun _=>?_)| refine z0h ?_)))
      all_goals exact zD124
    · repeat' (first|(apply z07;(first|refine z0p ?_| (apply z0a;(refine z02 z1m rfl rfl ?_))|(apply z0e;(refine z02 z0s rfl rfl ?_))))|(apply z08;(first|refine z0o ?_|apply z09|refine z1w ?_| refine zdr rfl rfl (by decide) ?_|refine z2m (fun _=>?_) (fun _=>?_)))|(apply z05;(first|apply z06|apply z00|apply z04|apply z01|apply z03|refine z0f (fun _=>?_) (fun _=>?_)| refine z0h ?_)))
      all_goals try (exfalso;omega)
      all_goals (refine z0q Tryz.func104 _ z1e ⟨?_,rfl⟩;rw[hvl];simp_all <;> omega))
theorem zs6 {ks:List Rx} {i:Nat} {k:Rx} (h:ks[i]? =some k):zmn (ks.drop i)=(vns k&&zmn (ks.drop (i+1))):=by rw[drop_cons h,zmn]
theorem zgs:∀ (e:Rx),fit e→z0z Tryz.prog 54 [.d (Drx e)] (B (vns e)):=by
 refine Rx.ind' fun op mn mx rs ks ih hfit=>?_
 obtain⟨hf1,hf2,hf3⟩:=hfit
 refine z1l fun H=>?_
 refine z0m Tryz.func54 (by kernel_rfl) rfl (by simp) ?_
 rw[Drx,z4m,vns]
 dsimp only[Tryz.f54]
 have cv:=zk6 op mn mx rs ks hf1 hf2
 cases hv:vn (.mk op mn mx rs ks) with
 | false =>
  rw[hv] at cv
  repeat' (first|(apply z07;(first|refine z0p ?_| (apply z0a;(refine z02 z3k rfl rfl ?_))|(apply z0u;(refine z1o cv ?_))|(apply z1y;(refine z0b z2e ?_))))|(apply z08;(first|refine z0o ?_|apply z09))|(apply z05;(first|apply z06|apply z00|refine z1d ?_)))
  all_goals try (exfalso;omega)
  exact z0q Tryz.func54 _ z1e ⟨rfl,rfl⟩
 | true =>
  rw[hv] at cv
  rw[Bool.true_and]
  repeat' (first|(apply z07;(first|refine z0p ?_| (apply z0a;(first|refine z02 z3k rfl rfl ?_| refine z02 z1m rfl rfl ?_))|(apply z0e;(refine z02 z0s rfl rfl ?_))|(apply z14;(refine z02 (z1j rfl) rfl rfl ?_))|(apply z0u;(refine z1o cv ?_))|(apply z1y;(refine z0b z2e ?_))))|(apply z08;(first|refine z0o ?_|apply z09))|(apply z05;(first|apply z06|apply z00|refine z0w ?_| apply z04|apply z01)))
  all_goals try (exfalso;omega)
  refine z16 ?_
  refine z0c (z1u (fun i:Nat=>⟨19,[(9,.d (.slice (ks.map rxc))),(10,I .i64 ks.length),(11,I .i64 (i:Nat))],[],H⟩) (fun i=>i≤ks.length∧zmn (ks.drop i)=zmn ks) (fun i=>ks.length-i) ?_ 0 ⟨zAf _,rfl⟩) rfl rfl
  rintro i ⟨i1,i2⟩ ihl
  by_cases hlt:i<ks.length
  · obtain⟨k,hk⟩:∃ k,ks[i]? =some k:=⟨_,zA0 hlt⟩
    have c:=ih k (zA2 hk) (zcg hf3 k (zA2 hk))
    rw[zs6 hk] at i2
    cases hvk:vns k with
    | true =>
     rw[hvk] at c i2
     rw[Bool.true_and] at i2
     obtain⟨op',mn',mx',rs',ks'⟩:=k
     have hk':=zet hk
     rw[Drx,z4m] at c
     repeat' (first|(apply z07;(first|refine z0p ?_| (apply z0a;(first|refine z02 z2o rfl rfl ?_| refine z02 z2j rfl rfl ?_))|(apply z0i;(refine z02 (z0v (ys:=ks.map rxc) rfl hk') rfl rfl ?_))|(apply z0n;(refine z02 (z0r z0y) rfl rfl ?_))|(apply z0u;(refine z1o c ?_))|(apply z0d;(refine z2g ?_))|(apply z0k;(refine z0b z2q ?_))))|(apply z08;(first|refine z0o ?_|apply z09))|(apply z05;(first|apply z06|apply z00|refine z0w ?_| apply z04|apply z01|apply z03|refine z0f (fun _=>?_) (fun _=>?_)| refine z0h ?_)))
     all_goals try (exfalso;omega)
     exact z0c (ihl (i+1) ⟨by omega,i2⟩ (by omega)) rfl rfl
    | false =>
     rw[hvk] at c i2
     rw[Bool.false_and] at i2
     obtain⟨op',mn',mx',rs',ks'⟩:=k
     have hk':=zet hk
     rw[Drx,z4m] at c
     repeat' (first|(apply z07;(first|refine z0p ?_| (apply z0a;(first|refine z02 z2o rfl rfl ?_| refine z02 z2j rfl rfl ?_))|(apply z0i;(refine z02 (z0v (ys:=ks.map rxc) rfl hk') rfl rfl ?_))|(apply z0u;(refine z1o c ?_))|(apply z0d;(refine z2g ?_))|(apply z0k;(refine z0b z2q ?_))))|(apply z08;(first|refine z0o ?_|apply z09))|(apply z05;(first|apply z06|apply z00|refine z1d ?_| apply z04|apply z01|refine z0f (fun _=>?_) (fun _=>?_)| refine z0h ?_)))
     all_goals try (exfalso;omega)
     refine z0q Tryz.func54 _ z1e ⟨?_,rfl⟩
     rw[← i2]
  · obtain rfl:i=ks.length:=by omega
    rw[zAs,zmn] at i2
    repeat' (first|(apply z07;(refine z0p ?_))|(apply z08;(first|refine z0o ?_|apply z09))|(apply z05;(first|apply z06|apply z00|apply z04|apply z01|refine z0f (fun _=>?_) (fun _=>?_)| refine z0h ?_)))
    all_goals try (exfalso;omega)
    refine z0q Tryz.func54 _ z1e ⟨?_,rfl⟩
    rw[← i2]
theorem y1h {C:Int} (hC:1≤C) (e:Rx) (h:vns e=true):0≤ps C e∧ps C e≤C:=by
 rw[(y1c hC).1 e h]
 have:=zuc.1 e h
 omega
theorem zuw {C:Int} {ks:List Rx} {i:Nat} {k:Rx} (h:ks[i]? =some k) (n:Int):psL C (ks.drop i) n=psL C (ks.drop (i+1)) (min (n+ps C k) C):=by rw[drop_cons h,psL]
theorem zjp:∀ (e:Rx),fit e→vns e=true→z0z Tryz.prog 55 [.d (Drx e)] (I .i64 (ps 65 e)):=by
 refine Rx.ind' fun op mn mx rs ks ih hfit hv=>?_
 obtain⟨hf1,hf2,hf3⟩:=hfit
 rw[vns,zA7] at hv
 refine z1l fun H=>?_
 refine z0m Tryz.func55 (by kernel_rfl) rfl (by simp) ?_
 rw[Drx,z4m,ps]
 dsimp only[Tryz.f55]
 by_cases o1:op=1
 · rw[zAz o1]
   repeat' (first|(apply z07;(first|refine z0p ?_| (apply z0a;(refine z02 z1m rfl rfl ?_))|(apply z0e;(refine z02 z0s rfl rfl ?_))|(apply z14;(refine z02 (z1j rfl) rfl rfl ?_))|(apply z1y;(refine z0b z2e ?_))))|(apply z08;(first|refine z0o ?_|apply z09))|(apply z05;(first|apply z06|apply z00|apply z04|apply z01|refine z0f (fun _=>?_) (fun _=>?_))))
   all_goals try (exfalso;omega)
   exact z0q Tryz.func55 _ z1e ⟨rfl,rfl⟩
 rw[zAy o1]
 repeat' (first|(apply z07;(first|refine z0p ?_| (apply z0a;(refine z02 z1m rfl rfl ?_))|(apply z0e;(refine z02 z0s rfl rfl ?_))|(apply z14;(refine z02 (z1j rfl) rfl rfl ?_))|(apply z1y;(refine z0b z2e ?_))))|(apply z08;(first|refine z0o ?_|apply z09))|(apply z05;(first|apply z06|apply z00|apply z04|apply z01|refine z0f (fun _=>?_) (fun _=>?_))))
 all_goals try (exfalso;omega)
 refine z16 ?_
 refine z0c (z1u (fun q:Nat × Int=>⟨42,[(1,.ptr (0,1) 0),(3,I .i64 q.2),(10,.d (.slice (ks.map rxc))),(11,I .i64 ks.length),(12,I .i64 (q.1:Nat))],[(1,.box ((rx5 op mn mx rs ks).map .d))],H⟩) (fun q=>q.1≤ks.length∧0≤q.2∧q.2≤65∧psL 65 (ks.drop q.1) q.2=psL 65 ks 0) (fun q=>ks.length-q.1) ?_ (0,0) ⟨zAf _,by simp,by simp,rfl⟩) rfl rfl
 rintro⟨i,a⟩ ⟨i1,i2,i3,i4⟩ ihl
 simp only at i1 i2 i3 i4 ihl ⊢
 by_cases hlt:i<ks.length
 · obtain⟨k,hk⟩:∃ k,ks[i]? =some k:=⟨_,zA0 hlt⟩
   have hkv:=z9p hv.2 k (zA2 hk)
   have c:=ih k (zA2 hk) (zcg hf3 k (zA2 hk)) hkv
   have hr:=y1h (C:=65) (by decide) k hkv
   rw[zuw hk] at i4
   generalize ps 65 k=pk at c hr i4
   obtain⟨op',mn',mx',rs',ks'⟩:=k
   have hk':=zet hk
   rw[Drx,z4m] at c
   repeat' (first|(apply z07;(first|refine z0p ?_| (apply z0a;(first|refine z02 z1m rfl rfl ?_| refine z02 z2o rfl rfl ?_| refine z02 z2j rfl rfl ?_))|(apply z0e;(refine z02 z0s rfl rfl ?_))|(apply z0i;(refine z02 (z0v (ys:=ks.map rxc) rfl hk') rfl rfl ?_))|(apply z0n;(first|refine z02 (z0r z0y) rfl rfl ?_| refine z02 (z6s z0y) rfl rfl ?_))|(apply z14;(first|refine z02 zto rfl rfl ?_| refine z02 zti rfl rfl ?_))|(apply z0u;(refine z1o c ?_))|(apply z0d;(refine z2g ?_))|(apply z0k;(refine z0b z2q ?_))))|(apply z08;(first|refine z0o ?_|apply z09))|(apply z05;(first|apply z06|apply z00|apply z04|apply z01|apply z03|refine z0f (fun _=>?_) (fun _=>?_)| refine z4i rfl (fun _=>?_) (fun _=>?_)|refine z0h ?_)))
   all_goals try (exfalso;omega)
   exact z0c (ihl (i+1,min (a+pk) 65) ⟨by simp only;omega,by simp only;omega,by simp only;omega,i4⟩ (by simp only;omega)) rfl rfl
 · obtain rfl:i=ks.length:=by omega
   rw[zAs,psL] at i4
   subst i4
   by_cases o4:op=4
   · rw[zAz o4]
     rcases z7e hv.1 with h|h|h|⟨_,_,_,h1,h2,h3⟩
     · exact absurd (h.1.symm.trans o4) (by decide)
     · exact absurd (h.1.symm.trans o4) (by decide)
     · exact absurd (h.1.symm.trans o4) (by decide)
     have m1:(psL 65 ks 0)*max mn 1≤65*16:=Int.mul_le_mul i3 (by omega) (by omega) (by decide)
     have m2:0≤(psL 65 ks 0)*max mn 1:=Int.mul_nonneg i2 (by omega)
     have m3:mx≠-1→(psL 65 ks 0)*mx≤65*16:=fun h=>Int.mul_le_mul i3 (by omega) (by omega) (by decide)
     have m4:mx≠-1→0≤(psL 65 ks 0)*mx:=fun h=>Int.mul_nonneg i2 (by omega)
     rw[rep]
     by_cases hm:mx=-1
     · rw[zAz hm]
       exact zD37
     · rw[zAy hm]
       have m5:=m3 hm
       have m6:=m4 hm
       exact zD37
   · rw[zAy o4]
     repeat' (first|(apply z07;(first|refine z0p ?_| (apply z0a;(refine z02 z1m rfl rfl ?_))|(apply z0e;(refine z02 z0s rfl rfl ?_))|(apply z0n;(refine z02 (z6s z0y) rfl rfl ?_))|(apply z14;(first|refine z02 zto rfl rfl ?_| refine z02 zti rfl rfl ?_))))|(apply z08;(first|refine z0o ?_|apply z09))|(apply z05;(first|apply z06|apply z00|apply z04|apply z01|apply z03|refine z0f (fun _=>?_) (fun _=>?_)| refine z4i rfl (fun _=>?_) (fun _=>?_)|refine z0h ?_)))
     all_goals try (exfalso;omega)
     refine z0q Tryz.func55 _ z1e ⟨?_,rfl⟩
     rw[Int.min_eq_left i3]
theorem zeu (e:Rx) (hfit:fit e):z0z Tryz.prog 29 [.d (Drx e)] (I .i64 (val e)):=by
 refine z1l fun H=>?_
 refine z0m Tryz.func29 (by kernel_rfl) rfl (by simp) ?_
 have c1:=zzn 3 e hfit 1 0 0 (by decide) (by decide) (by decide) (by decide)
 have c2:=zgs e hfit
 have c3:=fun h=>zjp e hfit h
 rw[y2m]
 generalize sm e 1 0=r at c1
 obtain⟨rb,rn⟩:=r
 simp only at c1 ⊢
 generalize ps 65 e=pe at c3
 generalize vns e=ve at c2 c3
 obtain⟨op,mn,mx,rs,ks⟩:=e
 rw[Drx,z4m] at *
 dsimp only[Tryz.f29]
 cases rb with
 | false =>
  repeat' (first|(apply z07;(first|refine z0p ?_| (apply z0a;(refine z02 z3k rfl rfl ?_))|(apply z0u;(refine z3z c1 rfl rfl (by decide) ?_))|(apply z0d;(refine z2g ?_))|(apply z0k;(refine z0b z2q ?_))|(apply z1y;(refine z0b z2e ?_))))|(apply z08;(first|refine z0o ?_|apply z09))|(apply z05;(first|apply z06|apply z00|refine z1d ?_| apply z01)))
  all_goals try (exfalso;omega)
  exact z0q Tryz.func29 _ z1e ⟨rfl,rfl⟩
 | true =>
  cases ve with
  | false =>
   repeat' (first|(apply z07;(first|refine z0p ?_| (apply z0a;(refine z02 z3k rfl rfl ?_))|(apply z0u;(first|refine z3z c1 rfl rfl (by decide) ?_|refine z1o c2 ?_))|(apply z0d;(refine z2g ?_))|(apply z0k;(refine z0b z2q ?_))|(apply z1y;(refine z0b z2e ?_))))|(apply z08;(first|refine z0o ?_|apply z09))|(apply z05;(first|apply z06|apply z00|refine z1d ?_| refine z0w ?_| apply z01)))
   all_goals try (exfalso;omega)
   exact z0q Tryz.func29 _ z1e ⟨rfl,rfl⟩
  | true =>
   have c4:=c3 rfl
   by_cases hp:64<pe
   · exact zD38
   · exact zD38
end Go.Proofs.YthdfkabdoidjfaaGreatDoor
