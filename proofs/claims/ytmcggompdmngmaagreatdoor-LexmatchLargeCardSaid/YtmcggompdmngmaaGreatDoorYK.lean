/- A part of the proof: K7 to K7. -/
import Derived.Test.YtmcggompdmngmaaGreatDoorYc
import Derived.Test.YtmcggompdmngmaaGreatDoorYJ
set_option linter.all false
namespace Go.Proofs.YtmcggompdmngmaaGreatDoor
open Go.Ab Go.Rx Go.Wd
set_option maxHeartbeats 20000000
set_option maxRecDepth 100000
attribute [local irreducible] Run Ops Op1 z0u Val Tr z09 z0q NF Rel z1v z1u zkh zrx Go.Wd.nb Go.Wd.wN
abbrev rnD (l:List Int):D:=.slice (l.map fun c=>[z11 c])
theorem zru (ok:Int→List (Int × Int)→Bool) (l:List Int) (rs:List (Int × Int)):za2 ok l rs 0=ffR:=by funext i j;simp[za2]
theorem zxs {ok:Int→List (Int × Int)→Bool} {l:List Int} {rs:List (Int × Int)} {k:Nat} {c:Int} (h:l[k]? =some c) (hc:ok c rs=true):znz (za2 ok l rs k) k (zho (za2 ok l rs k k) (k+1))=za2 ok l rs (k+1):=by
 funext i j
 simp only[znz]
 by_cases hi:i=k
 · subst hi
   rw[zAz rfl,zho,za2,za2,h]
   simp[hc]
 · rw[zAy hi,za2,za2]
   exact zD95
theorem y3a {ok:Int→List (Int × Int)→Bool} {l:List Int} {rs:List (Int × Int)} {k:Nat} {c:Int} (h:l[k]? =some c) (hc:ok c rs=false):za2 ok l rs k=za2 ok l rs (k+1):=by
 funext i j
 by_cases hi:i=k
 · subst hi
   rw[za2,za2,h]
   simp[hc]
 · rw[za2,za2]
   exact zD95
theorem y78 (fold:Bool) (l:List Int) (hl:l.length≤1000000) (hc:∀ c∈l,0≤c∧c≤1114111):∀ (e:Rx),fit e→vns e=true→z09 Tryz.prog 98 [.d (Drx e),.d (rnD l),B fold] (z9i l.length (zl1 (rok fold) l e)):=by
 refine Rx.ind' fun op mn mx rs ks ih hfit hv=>?_
 obtain⟨hf1,hf2,hf3⟩:=hfit
 rw[vns,zA7] at hv
 refine z0t fun H=>?_
 refine z06 Tryz.func98 (by kernel_rfl) rfl (by simp) ?_
 rw[Drx,z3d,zl1]
 dsimp only[Tryz.f98]
 have hnw:=z9s l.length hl
 have hhe:=zzz l.length hl
 obtain⟨n,hn⟩:∃ n,l.length=n:=⟨_,rfl⟩
 by_cases o1:op=1
 · rw[zAz o1]
   repeat' (first|(apply z1k;(refine z08 (zcj rfl) rfl rfl ?_))|(apply z03;(refine zes (first:=[]) (cap:=[]) hnw rfl rfl rfl (by decide) ?_))|(apply z2c;(refine z0h z4x ?_))|refine z01 ?_|refine fk (fun _=>?_) (fun _=>?_))
   all_goals try (exfalso;omega)
   rw[hn]
   refine z0d ?_
   rw[← zru (rok fold) l rs]
   refine zjq (z0p (fun i:Nat=>⟨168,[(2,B fold),(3,.ptr (0,3) 0),(8,.ref (0,1000)),(33,.d (rnD l)),(34,I .i64 (n:Nat)),(35,I .i64 (i:Nat))],[(3,.box ((rx5 op mn mx rs ks).map .d))]++zb7 n (za2 (rok fold) l rs i),H⟩) (fun i=>i≤n) (fun i=>n-i) ?_ 0 (zAf _)) rfl
   intro i hi ihl
   by_cases hlt:i<n
   · obtain⟨c,hx⟩:∃ c,l[i]? =some c:=⟨_,zA0 (by omega)⟩
     have ih':=ihl (i+1) (by omega) (by omega)
     have hcc:=hc c (zA2 hx)
     have hco:=zk2 rs hf1 c hcc.1 hcc.2 fold
     have hcl:=z92 (n:=n) (a:=za2 (rok fold) l rs i) (show i≤n by omega)
     have hrow:=zgy (e:=165) (e0:=108) (pre:=[(3,.box ((rx5 op mn mx rs ks).map .d))]) rfl (z5r n (za2 (rok fold) l rs i) (show i≤n by omega))
     cases hb:rok fold c rs with
     | true =>
      rw[hb] at hco
      have hadd:=y7b n (za2 (rok fold) l rs i i) (i+1) (by omega) (by omega) (0,5000+i)
      repeat' (first|(apply z13;(refine z08 (z4l hcl rfl rfl) rfl rfl ?_))|(apply z04;(first|refine z08 (z1f rfl (idx hx)) rfl rfl ?_| refine z08 (z3x rfl (by omega) (by rw[z1j,z1b];omega) rfl) rfl rfl ?_))|(apply z03;(first|refine zjj hadd rfl hrow (by decide) ?_|refine z1n hco ?_))|refine z01 ?_|refine fk (fun _=>?_) (fun _=>?_))
      all_goals try (exfalso;omega)
      rw[show zb7 n (za2 (rok fold) l rs (i+1))=fam 165 108 ((rlX n (za2 (rok fold) l rs i)).set i (wds n (zho (za2 (rok fold) l rs i i) (i+1)))) by rw[zdh,zxs hx hb]] at ih'
      refine zl2 (i:=i) (X:=rlX n (za2 (rok fold) l rs i)) (pre:=[(3,.box ((rx5 op mn mx rs ks).map .d))]) rfl (by rw[z1b];omega) ?_ (fun s b hs hb=>?_) ih' rfl
      · rw[Ab.look,zAz rfl]
      · rw[Ab.look,zAy (Ne.symm hs)];exact hb
     | false =>
      rw[hb] at hco
      repeat' (first|(apply z04;(refine z08 (z1f rfl (idx hx)) rfl rfl ?_))|(apply z03;(refine z1n hco ?_))|refine z01 ?_|refine fk (fun _=>?_) (fun _=>?_))
      all_goals try (exfalso;omega)
      rw[← y3a hx hb] at ih'
      exact zjq ih' rfl
   · obtain rfl:i=n:=by omega
     repeat' (first|refine z01 ?_|refine fk (fun _=>?_) (fun _=>?_))
     all_goals try (exfalso;omega)
     all_goals refine zf6 (X:=rlX i (za2 (rok fold) l rs i)) (pre:=[(3,.box ((rx5 op mn mx rs ks).map .d))]) (pre':=[]) (tm':=[(6,z9i i (za2 (rok fold) l rs i))]) ⟨.inr ⟨rfl,rfl⟩,trivial⟩ rfl rfl ?_
     all_goals exact z02 Tryz.func98 _ z1d ⟨rfl,rfl⟩
 rw[zAy o1]
 by_cases o2:op=2
 · rw[zAz o2]
   repeat' (first|(apply z1k;(refine z08 (zcj rfl) rfl rfl ?_))|(apply z03;(refine zes (first:=[]) (cap:=[]) hhe rfl rfl rfl (by decide) ?_))|(apply z2c;(refine z0h z4x ?_))|refine z01 ?_|refine fk (fun _=>?_) (fun _=>?_))
   all_goals try (exfalso;omega)
   rw[hn]
   refine zf6 (X:=rlX n idR) (pre:=[(3,.box ((rx5 op mn mx rs ks).map .d))]) (pre':=[]) (tm':=[(1,.d (rnD l)),(2,B fold),(11,z9i n idR),(59,.d (.slice (ks.map rxc))),(60,I .i64 ks.length),(61,I .i64 0)]) ⟨.inl rfl,.inl rfl,.inr ⟨rfl,rfl⟩,.inl rfl,.inl rfl,.inl rfl,trivial⟩ rfl rfl ?_
   refine z0d ?_
   refine z00 (z0p (fun q:Nat × Rl=>⟨168,[(1,.d (rnD l)),(2,B fold),(11,z9i n q.2),(59,.d (.slice (ks.map rxc))),(60,I .i64 ks.length),(61,I .i64 (q.1:Nat))],[],H⟩) (fun q=>q.1≤ks.length∧zwh (rok fold) l q.2 (ks.drop q.1)=zwh (rok fold) l idR ks) (fun q=>ks.length-q.1) ?_ (0,idR) ⟨zAf _,rfl⟩) rfl rfl
   rintro⟨i,acc⟩ ⟨hi,hI⟩ ihl
   simp only at hi hI ihl ⊢
   by_cases hlt:i<ks.length
   · obtain⟨k,hk⟩:∃ k,ks[i]? =some k:=⟨_,zA0 hlt⟩
     have c:=ih k (zA2 hk) (z4a hf3 k (zA2 hk)) (z3e hv.2 k (zA2 hk))
     rw[drop_cons hk,zwh,hn] at hI
     rw[hn] at c
     generalize zl1 (rok fold) l k=b at c hI
     have hth:=zoa n (by omega) acc b
     have ih':=ihl (i+1,zpl n acc b) ⟨by simp only;omega,hI⟩ (by simp only;omega)
     obtain⟨op',mn',mx',rs',ks'⟩:=k
     have hk':=z4e hk
     rw[Drx,z3d] at c
     repeat' (first|(apply z04;(refine z08 (z1f (ys:=ks.map rxc) rfl hk') rfl rfl ?_))|(apply z03;(first|refine z1n c ?_| refine z1n hth ?_))|refine z01 ?_|refine fk (fun _=>?_) (fun _=>?_))
     all_goals try (exfalso;omega)
     exact z00 ih' rfl rfl
   · obtain rfl:i=ks.length:=by omega
     rw[zAs,zwh] at hI
     subst hI
     repeat' (first|refine z01 ?_|refine fk (fun _=>?_) (fun _=>?_))
     all_goals try (exfalso;omega)
     all_goals exact z02 Tryz.func98 _ z1d ⟨rfl,rfl⟩
 rw[zAy o2]
 by_cases o3:op=3
 · rw[zAz o3]
   repeat' (first|(apply z1k;(refine z08 (zcj rfl) rfl rfl ?_))|(apply z03;(refine zes (first:=[]) (cap:=[]) hnw rfl rfl rfl (by decide) ?_))|(apply z2c;(refine z0h z4x ?_))|refine z01 ?_|refine fk (fun _=>?_) (fun _=>?_))
   all_goals try (exfalso;omega)
   rw[hn]
   refine z0d ?_
   refine zba (tm':=[(1,.d (rnD l)),(2,B fold),(14,.ref (0,1000)),(78,.d (.slice (ks.map rxc))),(79,I .i64 ks.length),(80,I .i64 0)]) (hp':=zb7 n ffR) (fun t p h=>(y52 rfl).get h) (fun s b hb=>by
    rw[z2q,hb]
    have:=z7q hb
    rw[Ab.look,zAy (by omega)];rfl) ?_
   refine z0p (fun q:Nat × Rl=>⟨168,[(1,.d (rnD l)),(2,B fold),(14,.ref (0,1000)),(78,.d (.slice (ks.map rxc))),(79,I .i64 ks.length),(80,I .i64 (q.1:Nat))],zb7 n q.2,H⟩) (fun q=>q.1≤ks.length∧zwv (rok fold) l q.2 (ks.drop q.1)=zwv (rok fold) l ffR ks) (fun q=>ks.length-q.1) ?_ (0,ffR) ⟨zAf _,rfl⟩
   rintro⟨i,acc⟩ ⟨hi,hI⟩ ihl
   simp only at hi hI ihl ⊢
   by_cases hlt:i<ks.length
   · obtain⟨k,hk⟩:∃ k,ks[i]? =some k:=⟨_,zA0 hlt⟩
     have c:=ih k (zA2 hk) (z4a hf3 k (zA2 hk)) (z3e hv.2 k (zA2 hk))
     rw[drop_cons hk,zwv] at hI
     rw[hn] at c
     generalize zl1 (rok fold) l k=b at c hI
     have hor:=yaf n (by omega) acc b
     have ih':=ihl (i+1,orR acc b) ⟨by simp only;omega,hI⟩ (by simp only;omega)
     obtain⟨op',mn',mx',rs',ks'⟩:=k
     have hk':=z4e hk
     rw[Drx,z3d] at c
     repeat' (first|(apply z04;(refine z08 (z1f (ys:=ks.map rxc) rfl hk') rfl rfl ?_))|(apply z03;(first|refine zlk (pre:=[]) hor rfl (fun s b hb=>by have h9:=z7q hb;rw[Ab.look,zAy (by omega),Ab.look,zAy (by omega)];exact hb) rfl (by rw[z1b,z1b]) (by decide) ?_|refine z1n c ?_))|(apply z2d;(refine z0h (zgl rfl (by rw[zx8 (by decide)];rfl) (by decide)) ?_))|refine z01 ?_|refine fk (fun _=>?_) (fun _=>?_))
     all_goals try (exfalso;omega)
     exact zjq ih' rfl
   · obtain rfl:i=ks.length:=by omega
     rw[zAs,zwv] at hI
     rw[← hI]
     repeat' (first|refine z01 ?_|refine fk (fun _=>?_) (fun _=>?_))
     all_goals try (exfalso;omega)
     all_goals refine zf6 (X:=rlX n acc) (pre:=[]) (pre':=[]) (tm':=[(6,z9i n acc)]) ⟨.inr ⟨rfl,rfl⟩,trivial⟩ rfl rfl ?_
     all_goals exact z02 Tryz.func98 _ z1d ⟨rfl,rfl⟩
 rw[zAy o3]
 rcases z4b hv.1 with h|h|h|⟨_,rfl,⟨k,rfl⟩,m0,m1,m2⟩
 · exact absurd h.1 o1
 · exact absurd h.1 o2
 · exact absurd h.1 o3
 have c:=ih k (by simp) (z4a hf3 k (by simp)) (z3e hv.2 k (by simp))
 rw[yah]
 rw[hn] at c ⊢
 generalize zl1 (rok fold) l k=b at c ⊢
 obtain⟨op',mn',mx',rs',ks'⟩:=k
 have hk':([Rx.mk op' mn' mx' rs' ks'].map rxc)[(0:Int).toNat]? =some (rx5 op' mn' mx' rs' ks'):=z4e (i:=0) rfl
 rw[Drx,z3d] at c
 repeat' (first|(apply z04;(refine z08 (z1f (ys:=[Rx.mk op' mn' mx' rs' ks'].map rxc) rfl hk') rfl rfl ?_))|(apply z1k;(refine z08 (zcj rfl) rfl rfl ?_))|(apply z03;(first|refine zes (first:=[]) (cap:=[]) hhe rfl rfl rfl (by decide) ?_|refine z1n c ?_))|(apply z2c;(refine z0h z4x ?_))|refine z01 ?_|refine fk (fun _=>?_) (fun _=>?_))
 all_goals try (exfalso;omega)
 rw[hn]
 have hn6:n≤1000000:=by omega
 refine zf6 (X:=rlX n idR) (pre:=[(3,.box ([z2g op,z2g mn,z2g mx,rgs [],D.slice ([Rx.mk op' mn' mx' rs' ks'].map rxc)].map PV.d))]) (pre':=[(3,.box ([z2g op,z2g mn,z2g mx,rgs [],D.slice ([Rx.mk op' mn' mx' rs' ks'].map rxc)].map PV.d))]) (tm':=[(3,.ptr (0,3) 0),(7,I .i64 (n:Nat)),(17,z9i n b),(18,z9i n idR),(19,I .i64 0)]) ⟨.inl rfl,.inl rfl,.inl rfl,.inr ⟨rfl,rfl⟩,.inl rfl,trivial⟩ rfl rfl ?_
 refine z0d ?_
 refine z00 (z0p (fun i:Nat=>⟨168,[(3,.ptr (0,3) 0),(7,I .i64 (n:Nat)),(17,z9i n b),(18,z9i n (zhh n b i)),(19,I .i64 (i:Nat))],[(3,.box ([z2g op,z2g mn,z2g mx,rgs [],D.slice ([Rx.mk op' mn' mx' rs' ks'].map rxc)].map PV.d))],H⟩) (fun i=>(i:Int)≤mn) (fun i=>mn.toNat-i) ?_ 0 (by simpa using m0)) rfl rfl
 intro i hi ihl
 by_cases hlt:(i:Int)<mn
 · have hth:=zoa n hn6 (zhh n b i) b
   have ih':=ihl (i+1) (by omega) (by omega)
   repeat' (first|(apply z03;(refine z1n hth ?_))|refine z01 ?_|refine fk (fun _=>?_) (fun _=>?_))
   all_goals try (exfalso;omega)
   exact z00 ih' rfl rfl
 obtain rfl:mn=(i:Nat):=by omega
 rw[yaj,zA9]
 by_cases hx:mx<0
 · rw[zAz hx]
   have hhe:zkh Tryz.prog 138 [I .i64 (n:Nat)] (zb7 n idR) (.ref (0,1000)):=zzz n hn6
   have hor:=yaf n hn6 idR b
   repeat' (first|(apply z1k;(refine z08 (zm0 (m:=(0,1000)) (e':=165) (cs:=z8q 0 (rlX n (orR idR b)).length) rfl) rfl rfl ?_))|(apply z03;(first|refine zlk (pre:=[(3,.box ([z2g op,z2g (i:Nat),z2g mx,rgs [],D.slice ([Rx.mk op' mn' mx' rs' ks'].map rxc)].map PV.d))]) hor rfl (fun s b hb=>hb) rfl (by rw[z1b,z1b]) (by decide) ?_|refine zes (first:=[]) (cap:=[]) hhe rfl rfl rfl (by decide) ?_))|refine z01 ?_|refine fk (fun _=>?_) (fun _=>?_))
   all_goals try (exfalso;omega)
   rw[z1j,z1b]
   obtain⟨S0,hS0⟩:∃ S0,orR idR b=S0:=⟨_,rfl⟩
   obtain⟨SR,hSR⟩:∃ SR,wfO n S0 (n+1)=SR:=⟨_,rfl⟩
   rw[zv8,hS0,hSR,show rlX n S0=rlX n (wfO n S0 0) from rfl]
   refine z0d ?_
   refine zjq (z0p (fun k:Nat=>⟨168,[(18,z9i n (zhh n b i)),(20,.ref (0,1000)),(119,I .i64 ((n+1:Nat):Int)),(120,I .i64 (k:Nat))],[(3,.box ([z2g op,z2g (i:Nat),z2g mx,rgs [],D.slice ([Rx.mk op' mn' mx' rs' ks'].map rxc)].map PV.d))]++zb7 n (wfO n S0 k),H⟩) (fun k=>k≤n+1) (fun k=>n+1-k) ?_ 0 (zAf _)) rfl
   intro k hk ihk
   by_cases hlk:k<n+1
   · have ihk':=ihk (k+1) (by omega) (by omega)
     repeat' (first|(apply z1k;(refine z08 (zm0 (m:=(0,1000)) (e':=165) (cs:=z8q 0 (rlX n (wfO n S0 k)).length) rfl) rfl rfl ?_))|refine z01 ?_|refine fk (fun _=>?_) (fun _=>?_))
     all_goals try (exfalso;omega)
     rw[z1j,z1b]
     obtain⟨S1,hS1⟩:∃ S1,wfO n S0 k=S1:=⟨_,rfl⟩
     rw[wfO,hS1] at ihk'
     rw[hS1,show zb7 n S1=zb7 n (wfI k S1 0) from rfl]
     refine z0d ?_
     refine zjq (z0p (fun j:Nat=>⟨168,[(18,z9i n (zhh n b i)),(20,.ref (0,1000)),(21,I .i64 (k:Nat)),(119,I .i64 ((n+1:Nat):Int)),(120,I .i64 (k:Nat)),(124,I .i64 ((n+1:Nat):Int)),(125,I .i64 (j:Nat))],[(3,.box ([z2g op,z2g (i:Nat),z2g mx,rgs [],D.slice ([Rx.mk op' mn' mx' rs' ks'].map rxc)].map PV.d))]++zb7 n (wfI k S1 j),H⟩) (fun j=>j≤n+1) (fun j=>n+1-j) ?_ 0 (zAf _)) rfl
     intro j hj ihj
     by_cases hlj:j<n+1
     · have ihj':=ihj (j+1) (by omega) (by omega)
       rw[wfI] at ihj'
       generalize wfI k S1 j=S at ihj' ⊢
       have hcj:=z92 (n:=n) (a:=S) (show j≤n by omega)
       have hck:=z92 (n:=n) (a:=S) (show k≤n by omega)
       have hrj:=zgy (e:=165) (e0:=108) (pre:=[(3,.box ([z2g op,z2g (i:Nat),z2g mx,rgs [],D.slice ([Rx.mk op' mn' mx' rs' ks'].map rxc)].map PV.d))]) rfl (z5r n S (show j≤n by omega))
       have hrk:=zgy (e:=165) (e0:=108) (pre:=[(3,.box ([z2g op,z2g (i:Nat),z2g mx,rgs [],D.slice ([Rx.mk op' mn' mx' rs' ks'].map rxc)].map PV.d))]) rfl (z5r n S (show k≤n by omega))
       have hh:=y8c n (S j) k (by omega) hn6 (0,5000+j)
       cases hb:S j k with
       | true =>
        rw[hb] at hh
        rw[wf1,zAz hb,show zb7 n (znz S j (fun x=>S j x||S k x))=fam 165 108 ((rlX n S).set j (wds n (fun x=>S j x||S k x))) by rw[zdh]] at ihj'
        by_cases hjk:j=k
        · subst hjk
          have hjn:=y56 n (S j) hn6 (5000+j)
          repeat' (first | (apply z13; (refine z08 (z4l hcj rfl rfl) rfl rfl ?_)) | (apply z0c; (refine z0f (z4l hcj rfl rfl) rfl rfl ?_)) | (apply z04; (refine z08 (z3x rfl (by omega) (by rw [z1j, z1b]; omega) rfl) rfl rfl ?_)) | (apply z05; (refine z0f (z3x rfl (by omega) (by rw [z1j, z1b]; omega) rfl) rfl rfl ?_)) | (apply z03; (first | refine zjj hjn rfl hrj (by decide) ?_ | refine z3k hh (bk1 hrj) ?_)) | (apply z0m; ((refine z5k mix (by kernel_rfl) ?_) /- zdj -/)) | refine z01 ?_ | refine fk (fun _ => ?_) (fun _ => ?_))
          all_goals try (exfalso;omega)
          exact zD54
        · have hjn:=y2n n (S j) (S k) hn6 (5000+j) (5000+k) (by omega)
          repeat' (first | (apply z13; (refine z08 (z4l hcj rfl rfl) rfl rfl ?_)) | (apply z0c; (first | refine z0f (z4l hcj rfl rfl) rfl rfl ?_| refine z0f (z4l hck rfl rfl) rfl rfl ?_)) | (apply z04; (refine z08 (z3x rfl (by omega) (by rw [z1j, z1b]; omega) rfl) rfl rfl ?_)) | (apply z05; (refine z0f (z3x rfl (by omega) (by rw [z1j, z1b]; omega) rfl) rfl rfl ?_)) | (apply z03; (first | refine y7f hjn rfl hrj (bk1 hrk) (by decide) ?_ | refine z3k hh (bk1 hrj) ?_)) | (apply z0m; ((refine z5k mix (by kernel_rfl) ?_) /- zdj -/)) | refine z01 ?_ | refine fk (fun _ => ?_) (fun _ => ?_))
          all_goals try (exfalso;omega)
          exact zD54
       | false =>
        rw[hb] at hh
        rw[wf1,zAy (by rw[hb];decide)] at ihj'
        repeat' (first|(apply z13;(refine z08 (z4l hcj rfl rfl) rfl rfl ?_))|(apply z04;(refine z08 (z3x rfl (by omega) (by rw[z1j,z1b];omega) rfl) rfl rfl ?_))|(apply z03;(refine z3k hh (bk1 hrj) ?_))|refine z01 ?_|refine fk (fun _=>?_) (fun _=>?_))
        all_goals try (exfalso;omega)
        exact zjq ihj' rfl
     · obtain rfl:j=n+1:=by omega
       repeat' (first|refine z01 ?_|refine fk (fun _=>?_) (fun _=>?_))
       all_goals try (exfalso;omega)
       exact zjq ihk' rfl
   · obtain rfl:k=n+1:=by omega
     rw[hSR]
     have hth:=zoa n hn6 (zhh n b i) SR
     refine zf6 (X:=rlX n SR) (pre:=[(3,.box ([z2g op,z2g (i:Nat),z2g mx,rgs [],D.slice ([Rx.mk op' mn' mx' rs' ks'].map rxc)].map PV.d))]) (pre':=[]) (tm':=[(18,z9i n (zhh n b i)),(20,z9i n SR),(119,I .i64 ((n+1:Nat):Int)),(120,I .i64 ((n+1:Nat):Int))]) ⟨.inl rfl,.inr ⟨rfl,rfl⟩,.inl rfl,.inl rfl,trivial⟩ rfl rfl ?_
     repeat' (first|(apply z03;(refine z1n hth ?_))|refine z01 ?_|refine fk (fun _=>?_) (fun _=>?_))
     all_goals try (exfalso;omega)
     all_goals exact z02 Tryz.func98 _ z1d ⟨rfl,rfl⟩
 · rw[zAy hx]
   have hnw:zkh Tryz.prog 135 [I .i64 (n:Nat)] (zb7 n ffR) (.ref (0,1000)):=z9s n hn6
   have hor:=yaf n hn6 ffR (zhh n b i)
   repeat' (first|(apply z03;(first|refine zlk (pre:=[(3,.box ([z2g op,z2g (i:Nat),z2g mx,rgs [],D.slice ([Rx.mk op' mn' mx' rs' ks'].map rxc)].map PV.d))]) hor rfl (fun s b hb=>hb) rfl (by rw[z1b,z1b]) (by decide) ?_|refine zes (first:=[]) (cap:=[]) hnw rfl rfl rfl (by decide) ?_))|refine z01 ?_|refine fk (fun _=>?_) (fun _=>?_))
   all_goals try (exfalso;omega)
   rw[show rlX n (orR ffR (zhh n b i))=rlX n (y03 n b i 0) from rfl]
   refine z0d ?_
   refine zjq (z0p (fun t:Nat=>⟨168,[(3,.ptr (0,3) 0),(17,z9i n b),(18,z9i n (zhh n b (i+t))),(23,.ref (0,1000)),(24,I .i64 ((i+t:Nat):Int))],[(3,.box ([z2g op,z2g (i:Nat),z2g mx,rgs [],D.slice ([Rx.mk op' mn' mx' rs' ks'].map rxc)].map PV.d))]++zb7 n (y03 n b i t),H⟩) (fun t=>(t:Int)≤mx-(i:Nat)) (fun t=>(mx-(i:Nat)).toNat-t) ?_ 0 (by simp;omega)) rfl
   intro t ht iht
   by_cases hlt:((i+t:Nat):Int)<mx
   · have iht':=iht (t+1) (by omega) (by omega)
     have hth:z09 Tryz.prog 139 [z9i n (zhh n b (i+t)),z9i n b] (z9i n (zhh n b (i+t+1))):=zoa n hn6 (zhh n b (i+t)) b
     have hor:=yaf n hn6 (y03 n b i t) (zhh n b (i+t+1))
     repeat' (first|(apply z03;(first|refine zlk (pre:=[(3,.box ([z2g op,z2g (i:Nat),z2g mx,rgs [],D.slice ([Rx.mk op' mn' mx' rs' ks'].map rxc)].map PV.d))]) hor rfl (fun s b hb=>hb) rfl (by rw[z1b,z1b]) (by decide) ?_|refine z1n hth ?_))|refine z01 ?_|refine fk (fun _=>?_) (fun _=>?_))
     all_goals try (exfalso;omega)
     exact zjq iht' rfl
   · obtain rfl:(mx-(i:Nat)).toNat=t:=by omega
     repeat' (first|refine z01 ?_|refine fk (fun _=>?_) (fun _=>?_))
     all_goals try (exfalso;omega)
     all_goals refine zf6 (X:=rlX n (y03 n b i (mx-(i:Nat)).toNat)) (pre:=[(3,.box ([z2g op,z2g (i:Nat),z2g mx,rgs [],D.slice ([Rx.mk op' mn' mx' rs' ks'].map rxc)].map PV.d))]) (pre':=[]) (tm':=[(6,z9i n (y03 n b i (mx-(i:Nat)).toNat))]) ⟨.inr ⟨rfl,rfl⟩,trivial⟩ rfl rfl ?_
     all_goals exact z02 Tryz.func98 _ z1d ⟨rfl,rfl⟩
end Go.Proofs.YtmcggompdmngmaaGreatDoor
