/- A part of the proof: G1, G2, G3. -/
import Derived.Test.YthdfkabdoidjfaaGreatDoorQt
set_option linter.all false
set_option linter.unusedVariables false
set_option linter.unusedSimpArgs false
namespace Go.Proofs.YthdfkabdoidjfaaGreatDoor
open Go.Ab Go.Rx
set_option maxHeartbeats 20000000
set_option maxRecDepth 100000
attribute [local irreducible] Run Ops Op1 z2b Val Tr z0v z2c NF Rel z3w z3x
abbrev cnt (n:Int):Blk:=.box [I .i64 n]
theorem y20 (e:Rx) (d n:Int) (hd:1≤d) (h0:0≤n) (h1:n≤200) (h:(sm e d n).1=true):0≤(sm e d n).2∧(sm e d n).2≤200:=by
 have:=zpr.1 e d n hd h0 h1
 split at this
 · rw[this];simp only;omega
 · rw[this] at h;cases h
theorem zto {ks:List Rx} {i:Nat} {k:Rx} (h:ks[i]? =some k) (d n:Int):smL (ks.drop i) d n=if (sm k d n).1=true then smL (ks.drop (i+1)) d (sm k d n).2 else (false,(sm k d n).2):=by
 rw[drop_cons h,smL]
theorem zvx (X:Nat):∀ (e:Rx),fit e→∀ (d n:Int) (e0:Nat),1≤d→d≤100→0≤n→n≤200→z2c Tryz.prog 53 [.d (Drx e),I .i64 d,.ptr (e0,X) 0] [((e0,X),cnt n)] [((e0,X),cnt (sm e d n).2)] (B (sm e d n).1):=by
 refine Rx.ind' fun op mn mx rs ks ih hfit d n e0 hd hd1 h0 h1=>?_
 obtain⟨hf1,hf2,hf3⟩:=hfit
 refine z2n fun H hH=>?_
 have hX:H e0 X=some (cnt n):=hH ((e0,X),cnt n) (by simp)
 refine z0k Tryz.func53 (by kernel_rfl) rfl (by simp) ?_
 rw[Drx,z48,sm]
 dsimp only[Tryz.f53]
 by_cases hb:smB d (n+1)=true
 · rw[if_pos hb]
   have hb':=hb
   simp only[smB,Bool.or_eq_true,decide_eq_true_eq] at hb'
   repeat' (first|(apply z05;(first|refine z0o ?_| (apply z09;(first|refine z02 (z1d (b:=cnt (n+1))) rfl (bkN (z3n H (e0,X) (cnt (n+1)))) ?_| refine z02 (z1d (b:=cnt n)) rfl (bkN hX) ?_| refine z02 z1d rfl rfl ?_))|(apply z0d;(refine z02 z0i rfl rfl ?_))|(apply z0p;(refine z02 (z0q z1c) rfl rfl ?_))|(apply z0t;(refine z02 (z1b rfl) rfl rfl ?_))|(apply z0c;(refine z4l (raw:=cnt n) (raw':=cnt (n+1)) rfl hX rfl rfl rfl rfl rfl rfl ?_))|(apply z1q;(refine z0b z25 ?_))))|(apply z08;(first|refine z0n ?_|apply z07|refine z1r ?_| refine z2h (fun _=>?_) (fun _=>?_)))|(apply z06;(first|apply z0a|apply z00|refine z1h ?_| apply z04|apply z01|refine z0g (fun _=>?_) (fun _=>?_))))
   all_goals try (exfalso;omega)
   all_goals exact z0l Tryz.func53 _ z16 ⟨rfl,rfl⟩
 · rw[if_neg hb]
   have hb':=hb
   simp only[smB,Bool.or_eq_true,decide_eq_true_eq,not_or] at hb'
   repeat' (first|(apply z05;(first|refine z0o ?_| (apply z09;(first|refine z02 (z1d (b:=cnt (n+1))) rfl (bkN (z3n H (e0,X) (cnt (n+1)))) ?_| refine z02 (z1d (b:=cnt n)) rfl (bkN hX) ?_| refine z02 z1d rfl rfl ?_))|(apply z0d;(refine z02 z0i rfl rfl ?_))|(apply z0p;(refine z02 (z0q z1c) rfl rfl ?_))|(apply z0t;(refine z02 (z1b rfl) rfl rfl ?_))|(apply z0c;(refine z4l (raw:=cnt n) (raw':=cnt (n+1)) rfl hX rfl rfl rfl rfl rfl rfl ?_))|(apply z1q;(refine z0b z25 ?_))))|(apply z08;(first|refine z0n ?_|apply z07|refine z1r ?_| refine z2h (fun _=>?_) (fun _=>?_)))|(apply z06;(first|apply z0a|apply z00|refine z1h ?_| apply z04|apply z01|refine z0g (fun _=>?_) (fun _=>?_))))
   all_goals try (exfalso;omega)
   refine z1a ?_
   refine z0e (z1y (fun q:Nat × Int=>⟨36,[(1,I .i64 d),(2,.ptr (e0+1,X) 0),(23,.d (.slice (ks.map rxc))),(24,I .i64 ks.length),(25,I .i64 (q.1:Nat))],[],upd H (e0,X) (cnt q.2)⟩) (fun q=>q.1≤ks.length∧0≤q.2∧q.2≤200∧smL (ks.drop q.1) (d+1) q.2=smL ks (d+1) (n+1)) (fun q=>ks.length-q.1) ?_ (0,n+1) ⟨Nat.zero_le _,by simp only;omega,by simp only;omega,rfl⟩) rfl rfl
   rintro⟨i,m⟩ ⟨i1,i2,i3,i4⟩ ihl
   simp only at i1 i2 i3 i4 ihl ⊢
   by_cases hlt:i<ks.length
   · obtain⟨k,hk⟩:∃ k,ks[i]? =some k:=⟨_,List.getElem?_eq_getElem hlt⟩
     rw[zto hk] at i4
     have c:=ih k (List.mem_of_getElem? hk) (zby hf3 k (List.mem_of_getElem? hk)) (d+1) m (e0+1) (by omega) (by omega) i2 i3
     have hle:=y20 k (d+1) m (by omega) i2 i3
     generalize sm k (d+1) m=r at c i4 hle
     obtain⟨rb,rn⟩:=r
     simp only at c i4 hle
     obtain⟨op',mn',mx',rs',ks'⟩:=k
     have hk':=zdu hk
     rw[Drx,z48] at c
     cases rb with
     | true =>
      obtain⟨hle1,hle2⟩:=hle rfl
      rw[if_pos rfl] at i4
      repeat' (first|(apply z05;(first|refine z0o ?_| (apply z09;(first|refine z02 z27 rfl rfl ?_| refine z02 z1z rfl rfl ?_))|(apply z0f;(refine z02 (z1i (ys:=ks.map rxc) rfl hk') rfl rfl ?_))|(apply z0p;(refine z02 (z0q z1c) rfl rfl ?_))|(apply z0u;(refine zjs c rfl (z3n H (e0,X) (cnt m)) (by decide) ?_))|(apply z0c;(refine z23 ?_))|(apply z0h;(refine z0b z2i ?_))))|(apply z08;(first|refine z0n ?_|apply z07))|(apply z06;(first|apply z0a|apply z00|refine z11 ?_| apply z04|apply z01|apply z03|refine z0g (fun _=>?_) (fun _=>?_)| refine z0j ?_)))
      all_goals try (exfalso;omega)
      rw[z43]
      exact z0e (ihl (i+1,rn) ⟨by simp only;omega,hle1,hle2,i4⟩ (by simp only;omega)) rfl rfl
     | false =>
      rw[if_neg (by simp)] at i4
      rw[← i4]
      repeat' (first|(apply z05;(first|refine z0o ?_| (apply z09;(first|refine z02 z27 rfl rfl ?_| refine z02 z1z rfl rfl ?_))|(apply z0f;(refine z02 (z1i (ys:=ks.map rxc) rfl hk') rfl rfl ?_))|(apply z0p;(refine z02 (z0q z1c) rfl rfl ?_))|(apply z0u;(refine zjs c rfl (z3n H (e0,X) (cnt m)) (by decide) ?_))|(apply z0c;(refine z23 ?_))|(apply z0h;(refine z0b z2i ?_))))|(apply z08;(first|refine z0n ?_|apply z07))|(apply z06;(first|apply z0a|apply z00|refine z1h ?_| apply z04|apply z01|refine z0g (fun _=>?_) (fun _=>?_)| refine z0j ?_)))
      all_goals try (exfalso;omega)
      refine z0l Tryz.func53 _ z16 ⟨rfl,?_⟩
      exact z43 _ _ _ _
   · obtain rfl:i=ks.length:=by omega
     rw[List.drop_length,smL] at i4
     rw[← i4]
     repeat' (first|(apply z05;(refine z0o ?_))|(apply z08;(first|refine z0n ?_|apply z07))|(apply z06;(first|apply z0a|apply z00|apply z04|apply z01|refine z0g (fun _=>?_) (fun _=>?_)| refine z0j ?_)))
     all_goals try (exfalso;omega)
     exact z0l Tryz.func53 _ z16 ⟨rfl,rfl⟩
end Go.Proofs.YthdfkabdoidjfaaGreatDoor
namespace Go.Proofs.YthdfkabdoidjfaaGreatDoor
open Go.Ab Go.Rx
set_option maxHeartbeats 20000000
set_option maxRecDepth 100000
attribute [local irreducible] Run Ops Op1 z2b Val Tr z0v z2c NF Rel z3w z3x
theorem zmu {l:List Rg} {i:Nat} {r:Rg} (h:l[i]? =some r) (a:Int):zdh a (l.drop i)=(decide (a≤r.1)&&decide (r.1≤r.2)&&decide (r.2≤1114111)&&zdh (r.2+2) (l.drop (i+1))):=by
 rw[drop_cons h,zdh]
def prv (l:List Rg) (i:Nat) (a:Int):Prop:=(i=0∧a=0)∨(0<i∧∃ p,l[i-1]? =some p∧a=p.2+2∧0≤p.2∧p.2≤1114111)
theorem zma (l:List Rg) (hl:l.length≤9223372036854775807):z0v Tryz.prog 118 [.d (rgs l)] (B (zq5 l)):=by
 refine z1e fun H=>?_
 refine z0k Tryz.func118 (by kernel_rfl) rfl (by simp) ?_
 dsimp only[Tryz.f118]
 repeat' (first|(apply z05;(first|refine z0o ?_| (apply z0t;(refine z02 (z1b rfl) rfl rfl ?_))))|(apply z08;(first|refine z0n ?_|apply z07))|(apply z06;(first|apply z0a|apply z00|apply z01)))
 all_goals try (exfalso;omega)
 refine z1a ?_
 refine z0e (z1y (fun q:Nat × Int=>⟨47,[(0,.d (rgs l)),(5,.d (rgs l)),(6,I .i64 l.length),(7,I .i64 (q.1:Nat))],[],H⟩) (fun q=>q.1≤l.length∧prv l q.1 q.2∧zdh q.2 (l.drop q.1)=zdh 0 l) (fun q=>l.length-q.1) ?_ (0,0) ⟨Nat.zero_le _,.inl ⟨rfl,rfl⟩,rfl⟩) rfl rfl
 rintro⟨i,a⟩ ⟨i1,i2,i3⟩ ih
 simp only at i1 i2 i3 ih ⊢
 by_cases hlt:i<l.length
 · obtain⟨r,hr⟩:∃ r,l[i]? =some r:=⟨_,List.getElem?_eq_getElem hlt⟩
   rw[zmu hr] at i3
   by_cases hgd:a≤r.1∧r.1≤r.2∧r.2≤1114111
   · rw[decide_eq_true hgd.1,decide_eq_true hgd.2.1,decide_eq_true hgd.2.2,Bool.true_and,Bool.true_and,Bool.true_and] at i3
     rcases i2 with ⟨rfl,rfl⟩|⟨hi,p,hp,rfl,hp0,hp1⟩
     · repeat' (first|(apply z05;(first|refine z0o ?_| (apply z09;(refine z02 z27 rfl rfl ?_))|(apply z0f;(refine z02 (z1i (ys:=l.map rgc) rfl (idx hr)) rfl rfl ?_))|(apply z0p;(refine z02 (z0q z1c) rfl rfl ?_))|(apply z0t;(refine z02 (z1b rfl) rfl rfl ?_))|(apply z0c;(refine z23 ?_))|(apply z0h;(refine z0b z2i ?_))))|(apply z08;(first|refine z0n ?_|apply z07))|(apply z06;(first|apply z0a|apply z00|refine z1h ?_| refine z11 ?_| apply z04|apply z01|apply z2p|apply z03|refine z0g (fun _=>?_) (fun _=>?_)| refine z0j ?_))|(apply z2r;(first|(apply z15;refine z1o mix ?_)|refine z2y ?_| refine zf7 rfl rfl (by decide) ?_|refine z2s ?_| (apply z0r;(refine z0m z1d rfl rfl ?_))|(apply z0s;(refine z0m z0i rfl rfl ?_))|(refine z1n rfl rfl (fun hg=>?_) (fun hg=>?_) <;> simp only[hg] <;> (try simp only[decide_eq_true_eq,decide_eq_false_iff_not,Bool.not_eq_true',Bool.not_eq_false'] at hg)))))
       all_goals try (exfalso;omega)
       all_goals exact z0e (ih (1,r.2+2) ⟨by simp only;omega,.inr ⟨by simp,r,hr,rfl,by omega,hgd.2.2⟩,i3⟩ (by simp only;omega)) rfl rfl
     · have hp':l[((i:Int)-1).toNat]? =some p:=by rw[← hp];congr 1;omega
       repeat' (first|(apply z05;(first|refine z0o ?_| (apply z09;(refine z02 z27 rfl rfl ?_))|(apply z0f;(refine z02 (z1i (ys:=l.map rgc) rfl (idx hr)) rfl rfl ?_))|(apply z0p;(refine z02 (z0q z1c) rfl rfl ?_))|(apply z0t;(refine z02 (z1b rfl) rfl rfl ?_))|(apply z0c;(refine z23 ?_))|(apply z0h;(refine z0b z2i ?_))))|(apply z08;(first|refine z0n ?_|apply z07))|(apply z06;(first|apply z0a|apply z00|refine z1h ?_| refine z11 ?_| apply z04|apply z01|apply z2p|apply z03|refine z0g (fun _=>?_) (fun _=>?_)| refine z0j ?_))|(apply z2r;(first|(apply z15;refine z1o mix ?_)|refine z2y ?_| refine zf7 rfl rfl (by decide) ?_|refine z2s ?_| (apply z0r;(first|refine z0m z1d rfl rfl ?_| refine z0m z1p rfl rfl ?_))|(apply z0s;(first|refine z0m z0i rfl rfl ?_| refine z0m (z5s rfl rfl) rfl rfl ?_))|(apply z14;(refine z0m (z1i (ys:=l.map rgc) rfl (z52 hp')) rfl rfl ?_))|(apply z2f;(first|refine z0m (z0q (z8x (by omega) (by omega))) rfl rfl ?_| refine z0m (z22 z1c) rfl rfl ?_))|(refine z1n rfl rfl (fun hg=>?_) (fun hg=>?_) <;> simp only[hg] <;> (try simp only[decide_eq_true_eq,decide_eq_false_iff_not,Bool.not_eq_true',Bool.not_eq_false'] at hg)))))
       all_goals try (exfalso;omega)
       all_goals exact z0e (ih (i+1,r.2+2) ⟨by simp only;omega,.inr ⟨by simp,r,by simpa using hr,rfl,by omega,hgd.2.2⟩,i3⟩ (by simp only;omega)) rfl rfl
   · have hb:zq5 l=false:=by
      rw[zq5,← i3]
      have:(decide (a≤r.1)&&decide (r.1≤r.2)&&decide (r.2≤1114111))=false:=by
       rw[← Bool.decide_and,← Bool.decide_and,decide_eq_false_iff_not]
       exact fun h=>hgd ⟨h.1.1,h.1.2,h.2⟩
      rw[this];rfl
     rw[hb]
     rcases i2 with ⟨rfl,rfl⟩|⟨hi,p,hp,rfl,hp0,hp1⟩
     · repeat' (first|(apply z05;(first|refine z0o ?_| (apply z09;(refine z02 z27 rfl rfl ?_))|(apply z0f;(refine z02 (z1i (ys:=l.map rgc) rfl (idx hr)) rfl rfl ?_))|(apply z0p;(refine z02 (z0q z1c) rfl rfl ?_))|(apply z0t;(refine z02 (z1b rfl) rfl rfl ?_))|(apply z0c;(refine z23 ?_))|(apply z0h;(refine z0b z2i ?_))))|(apply z08;(first|refine z0n ?_|apply z07))|(apply z06;(first|apply z0a|apply z00|refine z1h ?_| refine z11 ?_| apply z04|apply z01|apply z2p|apply z03|refine z0g (fun _=>?_) (fun _=>?_)| refine z0j ?_))|(apply z2r;(first|(apply z15;refine z1o mix ?_)|refine z2y ?_| refine zf7 rfl rfl (by decide) ?_|refine z2s ?_| (apply z0r;(refine z0m z1d rfl rfl ?_))|(apply z0s;(refine z0m z0i rfl rfl ?_))|(refine z1n rfl rfl (fun hg=>?_) (fun hg=>?_) <;> simp only[hg] <;> (try simp only[decide_eq_true_eq,decide_eq_false_iff_not,Bool.not_eq_true',Bool.not_eq_false'] at hg)))))
       all_goals try (exfalso;omega)
       all_goals exact z0l Tryz.func118 _ z16 ⟨rfl,rfl⟩
     · have hp':l[((i:Int)-1).toNat]? =some p:=by rw[← hp];congr 1;omega
       repeat' (first|(apply z05;(first|refine z0o ?_| (apply z09;(refine z02 z27 rfl rfl ?_))|(apply z0f;(refine z02 (z1i (ys:=l.map rgc) rfl (idx hr)) rfl rfl ?_))|(apply z0p;(refine z02 (z0q z1c) rfl rfl ?_))|(apply z0t;(refine z02 (z1b rfl) rfl rfl ?_))|(apply z0c;(refine z23 ?_))|(apply z0h;(refine z0b z2i ?_))))|(apply z08;(first|refine z0n ?_|apply z07))|(apply z06;(first|apply z0a|apply z00|refine z1h ?_| refine z11 ?_| apply z04|apply z01|apply z2p|apply z03|refine z0g (fun _=>?_) (fun _=>?_)| refine z0j ?_))|(apply z2r;(first|(apply z15;refine z1o mix ?_)|refine z2y ?_| refine zf7 rfl rfl (by decide) ?_|refine z2s ?_| (apply z0r;(first|refine z0m z1d rfl rfl ?_| refine z0m z1p rfl rfl ?_))|(apply z0s;(first|refine z0m z0i rfl rfl ?_| refine z0m (z5s rfl rfl) rfl rfl ?_))|(apply z14;(refine z0m (z1i (ys:=l.map rgc) rfl (z52 hp')) rfl rfl ?_))|(apply z2f;(first|refine z0m (z0q (z8x (by omega) (by omega))) rfl rfl ?_| refine z0m (z22 z1c) rfl rfl ?_))|(refine z1n rfl rfl (fun hg=>?_) (fun hg=>?_) <;> simp only[hg] <;> (try simp only[decide_eq_true_eq,decide_eq_false_iff_not,Bool.not_eq_true',Bool.not_eq_false'] at hg)))))
       all_goals try (exfalso;omega)
       all_goals exact z0l Tryz.func118 _ z16 ⟨rfl,rfl⟩
 · obtain rfl:i=l.length:=by omega
   rw[List.drop_length,zdh] at i3
   rw[zq5,← i3,Bool.true_and]
   repeat' (first|(apply z05;(first|refine z0o ?_| (apply z0t;(refine z02 (z1b rfl) rfl rfl ?_))))|(apply z08;(first|refine z0n ?_|apply z07))|(apply z06;(first|apply z0a|apply z00|apply z04|apply z01|refine z0g (fun _=>?_) (fun _=>?_)| refine z0j ?_)))
   all_goals try (exfalso;omega)
   refine z0l Tryz.func118 _ z16 ⟨?_,rfl⟩
   congr 3;simp
theorem zj0 {op:Int} {ks:List Rx} {i:Nat} {k:Rx} (h:ks[i]? =some k):z6x op (ks.take (i+1))=(z6x op (ks.take i)&&!decide (k.op=op)):=by
 rw[z5g h,z6x,List.all_append];simp[z6x]
theorem zdn {op:Int} {ks:List Rx} {i:Nat} {k:Rx} (h:ks[i]? =some k) (hk:k.op=op):z6x op ks=false:=by
 rw[Bool.eq_false_iff]
 intro h2
 have:=List.all_eq_true.1 h2 k (List.mem_of_getElem? h)
 rw[hk] at this;simp at this
theorem zsh {op mn mx:Int} {rs:List Rg} {ks:List Rx} (h:(op≠1∧0<rs.length)∨(op≠4∧(mn≠0∨mx≠0))):vn (.mk op mn mx rs ks)=false:=by
 rw[Bool.eq_false_iff]
 intro h2
 rcases z6u h2 with ⟨rfl,rfl,rfl,rfl,_⟩|⟨rfl,rfl,rfl,rfl,_⟩|⟨rfl,rfl,rfl,rfl,_⟩|⟨rfl,rfl,_⟩ <;> simp at h <;> omega
theorem zzy {op mn mx:Int} {rs:List Rg} {ks:List Rx} {i:Nat} {k:Rx} (hk:ks[i]? =some k) (h:k.op=op) (h4:op≠4):vn (.mk op mn mx rs ks)=false:=by
 rw[Bool.eq_false_iff]
 intro h2
 rcases z6u h2 with ⟨rfl,rfl,rfl,rfl,_⟩|⟨rfl,rfl,rfl,rfl,_,h3⟩|⟨rfl,rfl,rfl,rfl,_,h3⟩|⟨rfl,_⟩
 · simp at hk
 · rw[zdn hk h] at h3;cases h3
 · rw[zdn hk h] at h3;cases h3
 · exact h4 rfl
theorem zw9 {op mn mx:Int} {rs:List Rg} {ks:List Rx} (he:¬ ((op≠1∧0<rs.length)∨(op≠4∧(mn≠0∨mx≠0)))) (h:op=4∨z6x op ks=true):vn (.mk op mn mx rs ks) =
 if op=1 then decide (ks.length=0)&&zq5 rs else if op=2 then !decide (ks.length=1) else if op=3 then decide (1<ks.length)
 else if op=4 then decide (ks.length=1)&&decide (0≤mn)&&decide (mn≤16)&&(decide (mx=-1)||(decide (mn≤mx)&&decide (mx≤16))) else false:=by
 rw[vn]
 have hrs:op≠1→rs.length=0:=by omega
 by_cases o4:op=4
 · subst o4;simp[hrs]
 have hk:=h.resolve_left o4
 have hmn:mn=0:=by omega
 have hmx:mx=0:=by omega
 subst hmn hmx
 by_cases o1:op=1
 · subst o1;simp
 have:=hrs o1
 simp[o1,o4,hk,this]
theorem zjf (op mn mx:Int) (rs:List Rg) (ks:List Rx) (hr:rs.length≤9223372036854775807) (hk:ks.length≤9223372036854775807):z0v Tryz.prog 104 [.d (.agg (rx5 op mn mx rs ks))] (B (vn (.mk op mn mx rs ks))):=by
 refine z1e fun H=>?_
 refine z0k Tryz.func104 (by kernel_rfl) rfl (by simp) ?_
 dsimp only[Tryz.f104]
 by_cases he:(op≠1∧0<rs.length)∨(op≠4∧(mn≠0∨mx≠0))
 · rw[zsh he]
   repeat' (first|(apply z05;(first|refine z0o ?_| (apply z09;(refine z02 z1d rfl rfl ?_))|(apply z0d;(refine z02 z0i rfl rfl ?_))|(apply z0t;(refine z02 (z1b rfl) rfl rfl ?_))|(apply z1q;(refine z0b z25 ?_))))|(apply z08;(first|refine z0n ?_|apply z07|refine z1r ?_| refine zc2 rfl rfl (by decide) ?_|refine z2h (fun _=>?_) (fun _=>?_)| refine z8t rfl rfl (fun _=>?_) (fun _=>?_)))|(apply z06;(first|apply z0a|apply z00|refine z1h ?_| refine z11 ?_| apply z04|apply z01|refine z3z rfl (fun _=>?_) (fun _=>?_))))
   all_goals try (exfalso;omega)
   all_goals exact z0l Tryz.func104 _ z16 ⟨rfl,rfl⟩
 repeat' (first|(apply z05;(first|refine z0o ?_| (apply z09;(refine z02 z1d rfl rfl ?_))|(apply z0d;(refine z02 z0i rfl rfl ?_))|(apply z0t;(refine z02 (z1b rfl) rfl rfl ?_))|(apply z1q;(refine z0b z25 ?_))))|(apply z08;(first|refine z0n ?_|apply z07|refine z1r ?_| refine zc2 rfl rfl (by decide) ?_|refine z2h (fun _=>?_) (fun _=>?_)| refine z8t rfl rfl (fun _=>?_) (fun _=>?_)))|(apply z06;(first|apply z0a|apply z00|refine z1h ?_| refine z11 ?_| apply z04|apply z01|refine z3z rfl (fun _=>?_) (fun _=>?_))))
 all_goals try (exfalso;omega)
 all_goals (
  refine z1a ?_
  refine z0e (z1y (fun i:Nat=>⟨101,[(1,.ptr (0,1) 0),(3,I .i64 ks.length),(34,.d (.slice (ks.map rxc))),(35,I .i64 ks.length),(36,I .i64 (i:Nat))],[(1,.box ((rx5 op mn mx rs ks).map .d))],H⟩) (fun i=>i≤ks.length∧(op=4∨z6x op (ks.take i)=true)) (fun i=>ks.length-i) ?_ 0 ⟨Nat.zero_le _,.inr rfl⟩) rfl rfl
  rintro i ⟨i1,i2⟩ ihl
  by_cases hlt:i<ks.length
  · obtain⟨k,hk2⟩:∃ k,ks[i]? =some k:=⟨_,List.getElem?_eq_getElem hlt⟩
    obtain⟨op',mn',mx',rs',ks'⟩:=k
    have hk':=zdu hk2
    have hkt:=zj0 (op:=op) hk2
    by_cases hbad:op'=op∧op≠4
    · rw[zzy hk2 hbad.1 hbad.2]
      repeat' (first|(apply z05;(first|refine z0o ?_| (apply z09;(first|refine z02 z1d rfl rfl ?_| refine z02 z27 rfl rfl ?_))|(apply z0d;(refine z02 z0i rfl rfl ?_))|(apply z0f;(refine z02 (z1i (ys:=ks.map rxc) rfl hk') rfl rfl ?_))|(apply z0p;(refine z02 (z0q z1c) rfl rfl ?_))|(apply z0c;(refine z23 ?_))|(apply z0h;(refine z0b z2i ?_))))|(apply z08;(first|refine z0n ?_|apply z07|refine z1r ?_| refine zc2 rfl rfl (by decide) ?_|refine z2h (fun _=>?_) (fun _=>?_)))|(apply z06;(first|apply z0a|apply z00|refine z11 ?_| apply z04|apply z01|apply z03|refine z0g (fun _=>?_) (fun _=>?_)| refine z3z rfl (fun _=>?_) (fun _=>?_)|refine z0j ?_)))
      all_goals try (exfalso;omega)
      all_goals exact z0l Tryz.func104 _ z16 ⟨rfl,rfl⟩
    · repeat' (first|(apply z05;(first|refine z0o ?_| (apply z09;(first|refine z02 z1d rfl rfl ?_| refine z02 z27 rfl rfl ?_))|(apply z0d;(refine z02 z0i rfl rfl ?_))|(apply z0f;(refine z02 (z1i (ys:=ks.map rxc) rfl hk') rfl rfl ?_))|(apply z0p;(refine z02 (z0q z1c) rfl rfl ?_))|(apply z0c;(refine z23 ?_))|(apply z0h;(refine z0b z2i ?_))))|(apply z08;(first|refine z0n ?_|apply z07|refine z1r ?_| refine zc2 rfl rfl (by decide) ?_|refine z2h (fun _=>?_) (fun _=>?_)))|(apply z06;(first|apply z0a|apply z00|refine z11 ?_| apply z04|apply z01|apply z03|refine z0g (fun _=>?_) (fun _=>?_)| refine z3z rfl (fun _=>?_) (fun _=>?_)|refine z0j ?_)))
      all_goals try (exfalso;omega)
      all_goals exact z0e (ihl (i+1) ⟨by omega,by
       by_cases h4:op=4
       · exact .inl h4
       · rw[hkt,i2.resolve_left h4,Bool.true_and,Bool.not_eq_true',decide_eq_false_iff_not]
         exact .inr fun h2=>hbad ⟨h2,h4⟩⟩ (by omega)) rfl rfl
  · obtain rfl:i=ks.length:=by omega
    rw[List.take_length] at i2
    have cv:=zma rs hr
    clear ihl
    have hvl:=zw9 he i2
    by_cases o1:op=1
    · subst o1
      repeat' (first|(apply z05;(first|refine z0o ?_| (apply z09;(refine z02 z1d rfl rfl ?_))|(apply z0d;(refine z02 z0i rfl rfl ?_))|(apply z0u;(refine z1j cv ?_))))|(apply z08;(first|refine z0n ?_|apply z07|refine z1r ?_| refine z2h (fun _=>?_) (fun _=>?_)))|(apply z06;(first|apply z0a|apply z00|refine z1h ?_| apply z04|apply z01|refine z0g (fun _=>?_) (fun _=>?_)| refine z0j ?_)))
      all_goals try (exfalso;omega)
      all_goals (refine z0l Tryz.func104 _ z16 ⟨?_,rfl⟩;rw[hvl];simp_all <;> omega)
    by_cases o2:op=2
    · subst o2
      repeat' (first|(apply z05;(first|refine z0o ?_| (apply z09;(refine z02 z1d rfl rfl ?_))|(apply z0d;(refine z02 z0i rfl rfl ?_))))|(apply z08;(first|refine z0n ?_|apply z07))|(apply z06;(first|apply z0a|apply z00|refine z1h ?_| refine z11 ?_| apply z04|apply z01|refine z0g (fun _=>?_) (fun _=>?_)| refine z0j ?_)))
      all_goals try (exfalso;omega)
      all_goals (refine z0l Tryz.func104 _ z16 ⟨?_,rfl⟩;rw[hvl];simp_all <;> omega)
    by_cases o3:op=3
    · subst o3
      repeat' (first|(apply z05;(first|refine z0o ?_| (apply z09;(refine z02 z1d rfl rfl ?_))|(apply z0d;(refine z02 z0i rfl rfl ?_))))|(apply z08;(first|refine z0n ?_|apply z07))|(apply z06;(first|apply z0a|apply z00|refine z1h ?_| refine z11 ?_| apply z04|apply z01|refine z0g (fun _=>?_) (fun _=>?_)| refine z0j ?_)))
      all_goals try (exfalso;omega)
      all_goals (refine z0l Tryz.func104 _ z16 ⟨?_,rfl⟩;rw[hvl];simp_all <;> omega)
    by_cases o4:op=4
    · subst o4
      repeat' (first|(apply z05;(first|refine z0o ?_| (apply z09;(refine z02 z1d rfl rfl ?_))|(apply z0d;(refine z02 z0i rfl rfl ?_))))|(apply z08;(first|refine z0n ?_|apply z07|refine z1r ?_| refine zc2 rfl rfl (by decide) ?_|refine z2h (fun _=>?_) (fun _=>?_)))|(apply z06;(first|apply z0a|apply z00|refine z1h ?_| refine z11 ?_| apply z04|apply z01|refine z0g (fun _=>?_) (fun _=>?_)| refine z0j ?_)))
      all_goals try (exfalso;omega)
      all_goals (refine z0l Tryz.func104 _ z16 ⟨?_,rfl⟩;rw[hvl];simp_all <;> omega)
    · repeat' (first|(apply z05;(first|refine z0o ?_| (apply z09;(refine z02 z1d rfl rfl ?_))|(apply z0d;(refine z02 z0i rfl rfl ?_))))|(apply z08;(first|refine z0n ?_|apply z07|refine z1r ?_| refine zc2 rfl rfl (by decide) ?_|refine z2h (fun _=>?_) (fun _=>?_)))|(apply z06;(first|apply z0a|apply z00|apply z04|apply z01|apply z03|refine z0g (fun _=>?_) (fun _=>?_)| refine z0j ?_)))
      all_goals try (exfalso;omega)
      all_goals (refine z0l Tryz.func104 _ z16 ⟨?_,rfl⟩;rw[hvl];simp_all <;> omega))
end Go.Proofs.YthdfkabdoidjfaaGreatDoor
namespace Go.Proofs.YthdfkabdoidjfaaGreatDoor
open Go.Ab Go.Rx
set_option maxHeartbeats 20000000
set_option maxRecDepth 100000
attribute [local irreducible] Run Ops Op1 z2b Val Tr z0v z2c NF Rel z3w z3x
theorem zpu {ks:List Rx} {i:Nat} {k:Rx} (h:ks[i]? =some k):zju (ks.drop i)=(vns k&&zju (ks.drop (i+1))):=by rw[drop_cons h,zju]
theorem zgj:∀ (e:Rx),fit e→z0v Tryz.prog 54 [.d (Drx e)] (B (vns e)):=by
 refine Rx.ind' fun op mn mx rs ks ih hfit=>?_
 obtain⟨hf1,hf2,hf3⟩:=hfit
 refine z1e fun H=>?_
 refine z0k Tryz.func54 (by kernel_rfl) rfl (by simp) ?_
 rw[Drx,z48,vns]
 dsimp only[Tryz.f54]
 have cv:=zjf op mn mx rs ks hf1 hf2
 cases hv:vn (.mk op mn mx rs ks) with
 | false =>
  rw[hv] at cv
  repeat' (first|(apply z05;(first|refine z0o ?_| (apply z09;(refine z02 z3t rfl rfl ?_))|(apply z0u;(refine z1j cv ?_))|(apply z1q;(refine z0b z25 ?_))))|(apply z08;(first|refine z0n ?_|apply z07))|(apply z06;(first|apply z0a|apply z00|refine z1h ?_)))
  all_goals try (exfalso;omega)
  exact z0l Tryz.func54 _ z16 ⟨rfl,rfl⟩
 | true =>
  rw[hv] at cv
  rw[Bool.true_and]
  repeat' (first|(apply z05;(first|refine z0o ?_| (apply z09;(first|refine z02 z3t rfl rfl ?_| refine z02 z1d rfl rfl ?_))|(apply z0d;(refine z02 z0i rfl rfl ?_))|(apply z0t;(refine z02 (z1b rfl) rfl rfl ?_))|(apply z0u;(refine z1j cv ?_))|(apply z1q;(refine z0b z25 ?_))))|(apply z08;(first|refine z0n ?_|apply z07))|(apply z06;(first|apply z0a|apply z00|refine z11 ?_| apply z04|apply z01)))
  all_goals try (exfalso;omega)
  refine z1a ?_
  refine z0e (z1y (fun i:Nat=>⟨19,[(9,.d (.slice (ks.map rxc))),(10,I .i64 ks.length),(11,I .i64 (i:Nat))],[],H⟩) (fun i=>i≤ks.length∧zju (ks.drop i)=zju ks) (fun i=>ks.length-i) ?_ 0 ⟨Nat.zero_le _,rfl⟩) rfl rfl
  rintro i ⟨i1,i2⟩ ihl
  by_cases hlt:i<ks.length
  · obtain⟨k,hk⟩:∃ k,ks[i]? =some k:=⟨_,List.getElem?_eq_getElem hlt⟩
    have c:=ih k (List.mem_of_getElem? hk) (zby hf3 k (List.mem_of_getElem? hk))
    rw[zpu hk] at i2
    cases hvk:vns k with
    | true =>
     rw[hvk] at c i2
     rw[Bool.true_and] at i2
     obtain⟨op',mn',mx',rs',ks'⟩:=k
     have hk':=zdu hk
     rw[Drx,z48] at c
     repeat' (first|(apply z05;(first|refine z0o ?_| (apply z09;(first|refine z02 z27 rfl rfl ?_| refine z02 z1z rfl rfl ?_))|(apply z0f;(refine z02 (z1i (ys:=ks.map rxc) rfl hk') rfl rfl ?_))|(apply z0p;(refine z02 (z0q z1c) rfl rfl ?_))|(apply z0u;(refine z1j c ?_))|(apply z0c;(refine z23 ?_))|(apply z0h;(refine z0b z2i ?_))))|(apply z08;(first|refine z0n ?_|apply z07))|(apply z06;(first|apply z0a|apply z00|refine z11 ?_| apply z04|apply z01|apply z03|refine z0g (fun _=>?_) (fun _=>?_)| refine z0j ?_)))
     all_goals try (exfalso;omega)
     exact z0e (ihl (i+1) ⟨by omega,i2⟩ (by omega)) rfl rfl
    | false =>
     rw[hvk] at c i2
     rw[Bool.false_and] at i2
     obtain⟨op',mn',mx',rs',ks'⟩:=k
     have hk':=zdu hk
     rw[Drx,z48] at c
     repeat' (first|(apply z05;(first|refine z0o ?_| (apply z09;(first|refine z02 z27 rfl rfl ?_| refine z02 z1z rfl rfl ?_))|(apply z0f;(refine z02 (z1i (ys:=ks.map rxc) rfl hk') rfl rfl ?_))|(apply z0u;(refine z1j c ?_))|(apply z0c;(refine z23 ?_))|(apply z0h;(refine z0b z2i ?_))))|(apply z08;(first|refine z0n ?_|apply z07))|(apply z06;(first|apply z0a|apply z00|refine z1h ?_| apply z04|apply z01|refine z0g (fun _=>?_) (fun _=>?_)| refine z0j ?_)))
     all_goals try (exfalso;omega)
     refine z0l Tryz.func54 _ z16 ⟨?_,rfl⟩
     rw[← i2]
  · obtain rfl:i=ks.length:=by omega
    rw[List.drop_length,zju] at i2
    repeat' (first|(apply z05;(refine z0o ?_))|(apply z08;(first|refine z0n ?_|apply z07))|(apply z06;(first|apply z0a|apply z00|apply z04|apply z01|refine z0g (fun _=>?_) (fun _=>?_)| refine z0j ?_)))
    all_goals try (exfalso;omega)
    refine z0l Tryz.func54 _ z16 ⟨?_,rfl⟩
    rw[← i2]
theorem zzj {C:Int} (hC:1≤C) (e:Rx) (h:vns e=true):0≤ps C e∧ps C e≤C:=by
 rw[(zz2 hC).1 e h]
 have:=zsa.1 e h
 omega
theorem zte {C:Int} {ks:List Rx} {i:Nat} {k:Rx} (h:ks[i]? =some k) (n:Int):psL C (ks.drop i) n=psL C (ks.drop (i+1)) (min (n+ps C k) C):=by rw[drop_cons h,psL]
theorem zih:∀ (e:Rx),fit e→vns e=true→z0v Tryz.prog 55 [.d (Drx e)] (I .i64 (ps 65 e)):=by
 refine Rx.ind' fun op mn mx rs ks ih hfit hv=>?_
 obtain⟨hf1,hf2,hf3⟩:=hfit
 rw[vns,Bool.and_eq_true] at hv
 refine z1e fun H=>?_
 refine z0k Tryz.func55 (by kernel_rfl) rfl (by simp) ?_
 rw[Drx,z48,ps]
 dsimp only[Tryz.f55]
 by_cases o1:op=1
 · rw[if_pos o1]
   repeat' (first|(apply z05;(first|refine z0o ?_| (apply z09;(refine z02 z1d rfl rfl ?_))|(apply z0d;(refine z02 z0i rfl rfl ?_))|(apply z0t;(refine z02 (z1b rfl) rfl rfl ?_))|(apply z1q;(refine z0b z25 ?_))))|(apply z08;(first|refine z0n ?_|apply z07))|(apply z06;(first|apply z0a|apply z00|apply z04|apply z01|refine z0g (fun _=>?_) (fun _=>?_))))
   all_goals try (exfalso;omega)
   exact z0l Tryz.func55 _ z16 ⟨rfl,rfl⟩
 rw[if_neg o1]
 repeat' (first|(apply z05;(first|refine z0o ?_| (apply z09;(refine z02 z1d rfl rfl ?_))|(apply z0d;(refine z02 z0i rfl rfl ?_))|(apply z0t;(refine z02 (z1b rfl) rfl rfl ?_))|(apply z1q;(refine z0b z25 ?_))))|(apply z08;(first|refine z0n ?_|apply z07))|(apply z06;(first|apply z0a|apply z00|apply z04|apply z01|refine z0g (fun _=>?_) (fun _=>?_))))
 all_goals try (exfalso;omega)
 refine z1a ?_
 refine z0e (z1y (fun q:Nat × Int=>⟨42,[(1,.ptr (0,1) 0),(3,I .i64 q.2),(10,.d (.slice (ks.map rxc))),(11,I .i64 ks.length),(12,I .i64 (q.1:Nat))],[(1,.box ((rx5 op mn mx rs ks).map .d))],H⟩) (fun q=>q.1≤ks.length∧0≤q.2∧q.2≤65∧psL 65 (ks.drop q.1) q.2=psL 65 ks 0) (fun q=>ks.length-q.1) ?_ (0,0) ⟨Nat.zero_le _,by simp,by simp,rfl⟩) rfl rfl
 rintro⟨i,a⟩ ⟨i1,i2,i3,i4⟩ ihl
 simp only at i1 i2 i3 i4 ihl ⊢
 by_cases hlt:i<ks.length
 · obtain⟨k,hk⟩:∃ k,ks[i]? =some k:=⟨_,List.getElem?_eq_getElem hlt⟩
   have hkv:=z9m hv.2 k (List.mem_of_getElem? hk)
   have c:=ih k (List.mem_of_getElem? hk) (zby hf3 k (List.mem_of_getElem? hk)) hkv
   have hr:=zzj (C:=65) (by decide) k hkv
   rw[zte hk] at i4
   generalize ps 65 k=pk at c hr i4
   obtain⟨op',mn',mx',rs',ks'⟩:=k
   have hk':=zdu hk
   rw[Drx,z48] at c
   repeat' (first|(apply z05;(first|refine z0o ?_| (apply z09;(first|refine z02 z1d rfl rfl ?_| refine z02 z27 rfl rfl ?_| refine z02 z1z rfl rfl ?_))|(apply z0d;(refine z02 z0i rfl rfl ?_))|(apply z0f;(refine z02 (z1i (ys:=ks.map rxc) rfl hk') rfl rfl ?_))|(apply z0p;(first|refine z02 (z0q z1c) rfl rfl ?_| refine z02 (zt3 z1c) rfl rfl ?_))|(apply z0t;(first|refine z02 ztd rfl rfl ?_| refine z02 zs3 rfl rfl ?_))|(apply z0u;(refine z1j c ?_))|(apply z0c;(refine z23 ?_))|(apply z0h;(refine z0b z2i ?_))))|(apply z08;(first|refine z0n ?_|apply z07))|(apply z06;(first|apply z0a|apply z00|apply z04|apply z01|apply z03|refine z0g (fun _=>?_) (fun _=>?_)| refine z3z rfl (fun _=>?_) (fun _=>?_)|refine z0j ?_)))
   all_goals try (exfalso;omega)
   exact z0e (ihl (i+1,min (a+pk) 65) ⟨by simp only;omega,by simp only;omega,by simp only;omega,i4⟩ (by simp only;omega)) rfl rfl
 · obtain rfl:i=ks.length:=by omega
   rw[List.drop_length,psL] at i4
   subst i4
   by_cases o4:op=4
   · rw[if_pos o4]
     rcases z6u hv.1 with h|h|h|⟨_,_,_,h1,h2,h3⟩
     · exact absurd (h.1.symm.trans o4) (by decide)
     · exact absurd (h.1.symm.trans o4) (by decide)
     · exact absurd (h.1.symm.trans o4) (by decide)
     have m1:(psL 65 ks 0)*max mn 1≤65*16:=Int.mul_le_mul i3 (by omega) (by omega) (by decide)
     have m2:0≤(psL 65 ks 0)*max mn 1:=Int.mul_nonneg i2 (by omega)
     have m3:mx≠-1→(psL 65 ks 0)*mx≤65*16:=fun h=>Int.mul_le_mul i3 (by omega) (by omega) (by decide)
     have m4:mx≠-1→0≤(psL 65 ks 0)*mx:=fun h=>Int.mul_nonneg i2 (by omega)
     rw[rep]
     by_cases hm:mx=-1
     · rw[if_pos hm]
       repeat' (first|(apply z05;(first|refine z0o ?_| (apply z09;(refine z02 z1d rfl rfl ?_))|(apply z0d;(refine z02 z0i rfl rfl ?_))|(apply z0p;(refine z02 (zt3 z1c) rfl rfl ?_))|(apply z0t;(first|refine z02 ztd rfl rfl ?_| refine z02 zs3 rfl rfl ?_))))|(apply z08;(first|refine z0n ?_|apply z07))|(apply z06;(first|apply z0a|apply z00|apply z04|apply z01|apply z03|refine z0g (fun _=>?_) (fun _=>?_)| refine z3z rfl (fun _=>?_) (fun _=>?_)|refine z0j ?_)))
       all_goals try (exfalso;omega)
       exact z0l Tryz.func55 _ z16 ⟨rfl,rfl⟩
     · rw[if_neg hm]
       have m5:=m3 hm
       have m6:=m4 hm
       repeat' (first|(apply z05;(first|refine z0o ?_| (apply z09;(refine z02 z1d rfl rfl ?_))|(apply z0d;(refine z02 z0i rfl rfl ?_))|(apply z0p;(refine z02 (zt3 z1c) rfl rfl ?_))|(apply z0t;(first|refine z02 ztd rfl rfl ?_| refine z02 zs3 rfl rfl ?_))))|(apply z08;(first|refine z0n ?_|apply z07))|(apply z06;(first|apply z0a|apply z00|apply z04|apply z01|apply z03|refine z0g (fun _=>?_) (fun _=>?_)| refine z3z rfl (fun _=>?_) (fun _=>?_)|refine z0j ?_)))
       all_goals try (exfalso;omega)
       exact z0l Tryz.func55 _ z16 ⟨rfl,rfl⟩
   · rw[if_neg o4]
     repeat' (first|(apply z05;(first|refine z0o ?_| (apply z09;(refine z02 z1d rfl rfl ?_))|(apply z0d;(refine z02 z0i rfl rfl ?_))|(apply z0p;(refine z02 (zt3 z1c) rfl rfl ?_))|(apply z0t;(first|refine z02 ztd rfl rfl ?_| refine z02 zs3 rfl rfl ?_))))|(apply z08;(first|refine z0n ?_|apply z07))|(apply z06;(first|apply z0a|apply z00|apply z04|apply z01|apply z03|refine z0g (fun _=>?_) (fun _=>?_)| refine z3z rfl (fun _=>?_) (fun _=>?_)|refine z0j ?_)))
     all_goals try (exfalso;omega)
     refine z0l Tryz.func55 _ z16 ⟨?_,rfl⟩
     rw[Int.min_eq_left i3]
theorem zeb (e:Rx) (hfit:fit e):z0v Tryz.prog 29 [.d (Drx e)] (I .i64 (val e)):=by
 refine z1e fun H=>?_
 refine z0k Tryz.func29 (by kernel_rfl) rfl (by simp) ?_
 have c1:=zvx 3 e hfit 1 0 0 (by decide) (by decide) (by decide) (by decide)
 have c2:=zgj e hfit
 have c3:=fun h=>zih e hfit h
 rw[zzo]
 generalize sm e 1 0=r at c1
 obtain⟨rb,rn⟩:=r
 simp only at c1 ⊢
 generalize ps 65 e=pe at c3
 generalize vns e=ve at c2 c3
 obtain⟨op,mn,mx,rs,ks⟩:=e
 rw[Drx,z48] at *
 dsimp only[Tryz.f29]
 cases rb with
 | false =>
  repeat' (first|(apply z05;(first|refine z0o ?_| (apply z09;(refine z02 z3t rfl rfl ?_))|(apply z0u;(refine z8m c1 rfl rfl (by decide) ?_))|(apply z0c;(refine z23 ?_))|(apply z0h;(refine z0b z2i ?_))|(apply z1q;(refine z0b z25 ?_))))|(apply z08;(first|refine z0n ?_|apply z07))|(apply z06;(first|apply z0a|apply z00|refine z1h ?_| apply z01)))
  all_goals try (exfalso;omega)
  exact z0l Tryz.func29 _ z16 ⟨rfl,rfl⟩
 | true =>
  cases ve with
  | false =>
   repeat' (first|(apply z05;(first|refine z0o ?_| (apply z09;(refine z02 z3t rfl rfl ?_))|(apply z0u;(first|refine z8m c1 rfl rfl (by decide) ?_|refine z1j c2 ?_))|(apply z0c;(refine z23 ?_))|(apply z0h;(refine z0b z2i ?_))|(apply z1q;(refine z0b z25 ?_))))|(apply z08;(first|refine z0n ?_|apply z07))|(apply z06;(first|apply z0a|apply z00|refine z1h ?_| refine z11 ?_| apply z01)))
   all_goals try (exfalso;omega)
   exact z0l Tryz.func29 _ z16 ⟨rfl,rfl⟩
  | true =>
   have c4:=c3 rfl
   by_cases hp:64<pe
   · repeat' (first|(apply z05;(first|refine z0o ?_| (apply z09;(refine z02 z3t rfl rfl ?_))|(apply z0u;(first|refine z8m c1 rfl rfl (by decide) ?_|refine z1j c2 ?_| refine z1j c4 ?_))|(apply z0c;(refine z23 ?_))|(apply z0h;(refine z0b z2i ?_))|(apply z1q;(refine z0b z25 ?_))))|(apply z08;(first|refine z0n ?_|apply z07))|(apply z06;(first|apply z0a|apply z00|refine z11 ?_| apply z04|apply z01|apply z03|refine z0g (fun _=>?_) (fun _=>?_))))
     all_goals try (exfalso;omega)
     refine z0l Tryz.func29 _ z16 ⟨?_,rfl⟩
     simp[hp]
   · repeat' (first|(apply z05;(first|refine z0o ?_| (apply z09;(refine z02 z3t rfl rfl ?_))|(apply z0u;(first|refine z8m c1 rfl rfl (by decide) ?_|refine z1j c2 ?_| refine z1j c4 ?_))|(apply z0c;(refine z23 ?_))|(apply z0h;(refine z0b z2i ?_))|(apply z1q;(refine z0b z25 ?_))))|(apply z08;(first|refine z0n ?_|apply z07))|(apply z06;(first|apply z0a|apply z00|refine z11 ?_| apply z04|apply z01|apply z03|refine z0g (fun _=>?_) (fun _=>?_))))
     all_goals try (exfalso;omega)
     refine z0l Tryz.func29 _ z16 ⟨?_,rfl⟩
     simp[hp]
end Go.Proofs.YthdfkabdoidjfaaGreatDoor
