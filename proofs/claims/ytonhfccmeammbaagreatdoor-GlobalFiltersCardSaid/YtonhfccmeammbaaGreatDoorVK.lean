/- A part. -/
import Derived.Test.YtonhfccmeammbaaGreatDoorVJ
set_option linter.all false
open Go.Proofs.Tryz
namespace Go.Proofs.YtonhfccmeammbaaGreatDoor
open Go.Ab Go.Rx Go.Wd
set_option maxHeartbeats 20000000
set_option maxRecDepth 100000
attribute [local irreducible] Run Ops Op1 z1z Val Tr z0q z1v NF Rel z5c z5d zm1 zse Go.Wd.nb Go.Wd.wN
abbrev rnD(l:List Int):D:=.slice (l.map fun c=>[zbg c])
theorem zrl(ok:Int→List (Int × Int)→Bool)(l:List Int)(rs:List (Int × Int)):zbh ok l rs 0=ffR:=by funext i j;simp[zbh]
theorem zv2{ok:Int→List (Int × Int)→Bool}{l:List Int}{rs:List (Int × Int)}{k:Nat}{c:Int}(h:l[k]? =some c)(hc:ok c rs=true):zm5 (zbh ok l rs k) k (zil (zbh ok l rs k k) (k+1))=zbh ok l rs (k+1):=by
 funext i j
 simp only[zm5]
 by_cases hi:i=k
 ·subst hi
  rw[zAz rfl,zil,zbh,zbh,h]
  simp[hc]
 ·rw[zAy hi,zbh,zbh]
  exact zD76
theorem zzc{ok:Int→List (Int × Int)→Bool}{l:List Int}{rs:List (Int × Int)}{k:Nat}{c:Int}(h:l[k]? =some c)(hc:ok c rs=false):zbh ok l rs k=zbh ok l rs (k+1):=by
 funext i j
 by_cases hi:i=k
 ·subst hi
  rw[zbh,zbh,h]
  simp[hc]
 ·rw[zbh,zbh]
  exact zD76
theorem y2r(fold:Bool)(l:List Int)(hl:l.length≤1000000)(hc:∀c∈l,0≤c∧c≤1114111):∀(e:Rx),fit e→vns e=true→z0q prog 161 [.d (Drx e),.d (rnD l),B fold] (zat l.length (zkf (rok fold) l e)):=by
 refine Rx.ind' fun op mn mx rs ks ih hfit hv=>?_
 obtain⟨hf1,hf2,hf3⟩:=hfit
 rw[vns,zA7]at hv
 refine z0y fun H=>?_
 refine z0g func161 (by kernel_rfl) rfl (by simp) ?_
 rw[Drx,z3i,zkf]
 dsimp only[f161]
 have hnw:=zb6 l.length hl
 have hhe:=zvy l.length hl
 obtain⟨n,hn⟩:∃n,l.length=n:=⟨_,rfl⟩
 by_cases o1:op=1
 ·rw[zAz o1]
  repeat' first|(apply z05;first|refine z0n ?_| (apply z0a;refine z02 z16 rfl rfl ?_)|(apply z0c;refine z02 z0i rfl rfl ?_)|(apply z0s;refine z02 (z0w rfl) rfl rfl ?_)|(apply z0j;refine zfo (first:=[]) (cap:=[]) hnw rfl rfl rfl (by decide) ?_)|(apply z18;refine z0b z43 ?_))|(apply z06;first|refine z0m ?_|apply z09)|(apply z07;first|apply z08|apply z00|apply z04|apply z01|apply z03|refine z0h (fun _=>?_) fun _=>?_)
  all_goals try omega
  rw[hn]
  refine z0r ?_
  rw[←zrl (rok fold) l rs]
  refine zjo (z1o (fun i:Nat=>⟨168,[(2,B fold),(3,.ptr (0,3) 0),(8,.ref (0,1000)),(33,.d (rnD l)),(34,I .i64 (n:Nat)),(35,I .i64 (i:Nat))],[(3,.box ((rx5 op mn mx rs ks).map .d))]++zck n (zbh (rok fold) l rs i),H⟩) (fun i=>i≤n) (fun i=>n-i) ?_ 0 (zAf _)) rfl
  intro i hi ihl
  by_cases hlt:i<n
  ·obtain⟨c,hx⟩:∃c,l[i]? =some c:=⟨_,zA0 (by omega)⟩
   have ih':=ihl (i+1) (by omega) (by omega)
   have hcc:=hc c (zA2 hx)
   have hco:=zjs rs hf1 c hcc.1 hcc.2 fold
   have hcl:=zbe (n:=n) (a:=zbh (rok fold) l rs i) (show i≤n by omega)
   have hrow:=zgq (e:=193) (e0:=182) (pre:=[(3,.box ((rx5 op mn mx rs ks).map .d))]) rfl (z7r n (zbh (rok fold) l rs i) (show i≤n by omega))
   cases hb:rok fold c rs with
   | true =>
    rw[hb]at hco
    have hadd:=y2w n (zbh (rok fold) l rs i i) (i+1) (by omega) (by omega) (0,5000+i)
    repeat' first|(apply z05;first|refine z0n ?_| (apply z0a;first|refine z02 (z6j hcl rfl rfl) rfl rfl ?_| refine z02 z16 rfl rfl ?_| refine z02 z2f rfl rfl ?_)|(apply z0c;refine z02 z0i rfl rfl ?_)|(apply z0k;first|refine z02 (z1a rfl (idx hx)) rfl rfl ?_| refine z02 (z5i rfl (by omega) (by rw[z2v,z2k];omega) rfl) rfl rfl ?_)|(apply z0t;refine z02 (z0z z1h) rfl rfl ?_)|(apply z0j;first|refine za1 hadd rfl hrow (by decide) ?_|refine z29 hco ?_))|(apply z06;first|refine z0m ?_|apply z09)|(apply z07;first|apply z08|apply z00|refine z1j ?_| apply z04|apply z01|apply z03|refine z0h (fun _=>?_) (fun _=>?_)| refine z0o ?_)
    all_goals try omega
    rw[show zck n (zbh (rok fold) l rs (i+1))=fam 193 182 ((rlX n (zbh (rok fold) l rs i)).set i (wds n (zil (zbh (rok fold) l rs i i) (i+1)))) by rw[zde,zv2 hx hb]]at ih'
    refine zl4 (i:=i) (X:=rlX n (zbh (rok fold) l rs i)) (pre:=[(3,.box ((rx5 op mn mx rs ks).map .d))]) rfl (by rw[z2k];omega) ?_ (fun s b hs hb=>?_) ih' rfl
    ·rw[Ab.look,zAz rfl]
    ·rw[Ab.look,zAy (Ne.symm hs)];exact hb
   | false =>
    rw[hb]at hco
    repeat' first|(apply z05;first|refine z0n ?_| (apply z0a;first|refine z02 z16 rfl rfl ?_| refine z02 z2f rfl rfl ?_)|(apply z0c;refine z02 z0i rfl rfl ?_)|(apply z0k;refine z02 (z1a rfl (idx hx)) rfl rfl ?_)|(apply z0t;refine z02 (z0z z1h) rfl rfl ?_)|(apply z0j;refine z29 hco ?_))|(apply z06;first|refine z0m ?_|apply z09)|(apply z07;first|apply z08|apply z00|refine z15 ?_| apply z04|apply z01|apply z03|refine z0h (fun _=>?_) (fun _=>?_)| refine z0o ?_)
    all_goals try omega
    rw[←zzc hx hb]at ih'
    exact zjo ih' rfl
  ·obtain rfl:i=n:=by omega
   repeat' first|(apply z05;refine z0n ?_)|(apply z06;first|refine z0m ?_|apply z09)|(apply z07;first|apply z08|apply z00|apply z04|apply z01|refine z0h (fun _=>?_) (fun _=>?_)| refine z0o ?_)
   all_goals try omega
   all_goals refine zg0 (X:=rlX i (zbh (rok fold) l rs i)) (pre:=[(3,.box ((rx5 op mn mx rs ks).map .d))]) (pre':=[]) (tm':=[(6,zat i (zbh (rok fold) l rs i))]) ⟨.inr ⟨rfl,rfl⟩,trivial⟩ rfl rfl ?_
   all_goals exact z0e func161 _ z0p ⟨rfl,rfl⟩
 rw[zAy o1]
 by_cases o2:op=2
 ·rw[zAz o2]
  repeat' first|(apply z05;first|refine z0n ?_| (apply z0a;refine z02 z16 rfl rfl ?_)|(apply z0c;refine z02 z0i rfl rfl ?_)|(apply z0s;refine z02 (z0w rfl) rfl rfl ?_)|(apply z0j;refine zfo (first:=[]) (cap:=[]) hhe rfl rfl rfl (by decide) ?_)|(apply z18;refine z0b z43 ?_))|(apply z06;first|refine z0m ?_|apply z09)|(apply z07;first|apply z08|apply z00|apply z04|apply z01|apply z03|refine z0h (fun _=>?_) fun _=>?_)
  all_goals try omega
  rw[hn]
  refine zg0 (X:=rlX n idR) (pre:=[(3,.box ((rx5 op mn mx rs ks).map .d))]) (pre':=[]) (tm':=[(1,.d (rnD l)),(2,B fold),(11,zat n idR),(59,.d (.slice (ks.map rxc))),(60,I .i64 ks.length),(61,I .i64 0)]) ⟨.inl rfl,.inl rfl,.inr ⟨rfl,rfl⟩,.inl rfl,.inl rfl,.inl rfl,trivial⟩ rfl rfl ?_
  refine z0r ?_
  refine z0d (z1o (fun q:Nat × Rl=>⟨168,[(1,.d (rnD l)),(2,B fold),(11,zat n q.2),(59,.d (.slice (ks.map rxc))),(60,I .i64 ks.length),(61,I .i64 (q.1:Nat))],[],H⟩) (fun q=>q.1≤ks.length∧zu8 (rok fold) l q.2 (ks.drop q.1)=zu8 (rok fold) l idR ks) (fun q=>ks.length-q.1) ?_ (0,idR) ⟨zAf _,rfl⟩) rfl rfl
  rintro⟨i,acc⟩ ⟨hi,hI⟩ ihl
  simp only at hi hI ihl⊢
  by_cases hlt:i<ks.length
  ·obtain⟨k,hk⟩:∃k,ks[i]? =some k:=⟨_,zA0 hlt⟩
   have c:=ih k (zA2 hk) (z5z hf3 k (zA2 hk)) (z5g hv.2 k (zA2 hk))
   rw[drop_cons hk,zu8,hn]at hI
   rw[hn]at c
   generalize zkf (rok fold) l k=b at c hI
   have hth:=zlw n (by omega) acc b
   have ih':=ihl (i+1,zol n acc b) ⟨by simp only;omega,hI⟩ (by simp only;omega)
   obtain⟨op',mn',mx',rs',ks'⟩:=k
   have hk':=z62 hk
   rw[Drx,z3i]at c
   repeat' first|(apply z05;first|refine z0n ?_| (apply z0a;first|refine z02 z1w rfl rfl ?_| refine z02 z1y rfl rfl ?_)|(apply z0k;refine z02 (z1a (ys:=ks.map rxc) rfl hk') rfl rfl ?_)|(apply z0t;refine z02 (z0z z1h) rfl rfl ?_)|(apply z0j;first|refine z29 c ?_| refine z29 hth ?_)|(apply z0f;refine z25 ?_)|(apply z0l;refine z0b z2e ?_))|(apply z06;first|refine z0m ?_|apply z09)|(apply z07;first|apply z08|apply z00|apply z04|apply z01|apply z03|refine z0h (fun _=>?_) (fun _=>?_)| refine z0o ?_)
   all_goals try omega
   exact z0d ih' rfl rfl
  ·obtain rfl:i=ks.length:=by omega
   rw[zAs,zu8]at hI
   subst hI
   repeat' first|(apply z05;refine z0n ?_)|(apply z06;first|refine z0m ?_|apply z09)|(apply z07;first|apply z08|apply z00|apply z04|apply z01|refine z0h (fun _=>?_) (fun _=>?_)| refine z0o ?_)
   all_goals try omega
   all_goals exact z0e func161 _ z0p ⟨rfl,rfl⟩
 rw[zAy o2]
 by_cases o3:op=3
 ·rw[zAz o3]
  repeat' first|(apply z05;first|refine z0n ?_| (apply z0a;refine z02 z16 rfl rfl ?_)|(apply z0c;refine z02 z0i rfl rfl ?_)|(apply z0s;refine z02 (z0w rfl) rfl rfl ?_)|(apply z0j;refine zfo (first:=[]) (cap:=[]) hnw rfl rfl rfl (by decide) ?_)|(apply z18;refine z0b z43 ?_))|(apply z06;first|refine z0m ?_|apply z09)|(apply z07;first|apply z08|apply z00|apply z04|apply z01|apply z03|refine z0h (fun _=>?_) fun _=>?_)
  all_goals try omega
  rw[hn]
  refine z0r ?_
  refine zcn (tm':=[(1,.d (rnD l)),(2,B fold),(14,.ref (0,1000)),(78,.d (.slice (ks.map rxc))),(79,I .i64 ks.length),(80,I .i64 0)]) (hp':=zck n ffR) (fun t p h=>(zwf rfl).get h) (fun s b hb=>by
   rw[z4c,hb]
   have:=z9f hb
   rw[Ab.look,zAy (by omega)];rfl) ?_
  refine z1o (fun q:Nat × Rl=>⟨168,[(1,.d (rnD l)),(2,B fold),(14,.ref (0,1000)),(78,.d (.slice (ks.map rxc))),(79,I .i64 ks.length),(80,I .i64 (q.1:Nat))],zck n q.2,H⟩) (fun q=>q.1≤ks.length∧zss (rok fold) l q.2 (ks.drop q.1)=zss (rok fold) l ffR ks) (fun q=>ks.length-q.1) ?_ (0,ffR) ⟨zAf _,rfl⟩
  rintro⟨i,acc⟩ ⟨hi,hI⟩ ihl
  simp only at hi hI ihl⊢
  by_cases hlt:i<ks.length
  ·obtain⟨k,hk⟩:∃k,ks[i]? =some k:=⟨_,zA0 hlt⟩
   have c:=ih k (zA2 hk) (z5z hf3 k (zA2 hk)) (z5g hv.2 k (zA2 hk))
   rw[drop_cons hk,zss]at hI
   rw[hn]at c
   generalize zkf (rok fold) l k=b at c hI
   have hor:=y4b n (by omega) acc b
   have ih':=ihl (i+1,orR acc b) ⟨by simp only;omega,hI⟩ (by simp only;omega)
   obtain⟨op',mn',mx',rs',ks'⟩:=k
   have hk':=z62 hk
   rw[Drx,z3i]at c
   repeat' first|(apply z05;first|refine z0n ?_| (apply z0a;first|refine z02 z1w rfl rfl ?_| refine z02 z1y rfl rfl ?_)|(apply z0k;refine z02 (z1a (ys:=ks.map rxc) rfl hk') rfl rfl ?_)|(apply z0t;refine z02 (z0z z1h) rfl rfl ?_)|(apply z0j;first|refine zmm (pre:=[]) hor rfl (fun s b hb=>by have h9:=z9f hb;rw[Ab.look,zAy (by omega),Ab.look,zAy (by omega)];exact hb) rfl (by rw[z2k,z2k]) (by decide) ?_|refine z29 c ?_)|(apply z0f;refine z25 ?_)|(apply z0l;refine z0b (zjy rfl (by rw[zvk (by decide)];rfl) (by decide)) ?_))|(apply z06;first|refine z0m ?_|apply z09)|(apply z07;first|apply z08|apply z00|apply z04|apply z01|apply z03|refine z0h (fun _=>?_) (fun _=>?_)| refine z0o ?_)
   all_goals try omega
   exact zjo ih' rfl
  ·obtain rfl:i=ks.length:=by omega
   rw[zAs,zss]at hI
   rw[←hI]
   repeat' first|(apply z05;refine z0n ?_)|(apply z06;first|refine z0m ?_|apply z09)|(apply z07;first|apply z08|apply z00|apply z04|apply z01|refine z0h (fun _=>?_) (fun _=>?_)| refine z0o ?_)
   all_goals try omega
   all_goals refine zg0 (X:=rlX n acc) (pre:=[]) (pre':=[]) (tm':=[(6,zat n acc)]) ⟨.inr ⟨rfl,rfl⟩,trivial⟩ rfl rfl ?_
   all_goals exact z0e func161 _ z0p ⟨rfl,rfl⟩
 rw[zAy o3]
 rcases z7a hv.1 with h|h|h|⟨_,rfl,⟨k,rfl⟩,m0,m1,m2⟩
 ·exact absurd h.1 o1
 ·exact absurd h.1 o2
 ·exact absurd h.1 o3
 have c:=ih k (by simp) (z5z hf3 k (by simp)) (z5g hv.2 k (by simp))
 rw[y4d]
 rw[hn]at c⊢
 generalize zkf (rok fold) l k=b at c⊢
 obtain⟨op',mn',mx',rs',ks'⟩:=k
 have hk':([Rx.mk op' mn' mx' rs' ks'].map rxc)[(0:Int).toNat]? =some (rx5 op' mn' mx' rs' ks'):=z62 (i:=0) rfl
 rw[Drx,z3i]at c
 repeat' first|(apply z05;first|refine z0n ?_| (apply z0a;first|refine z02 z16 rfl rfl ?_| refine z02 z1w rfl rfl ?_)|(apply z0c;refine z02 z0i rfl rfl ?_)|(apply z0k;refine z02 (z1a (ys:=[Rx.mk op' mn' mx' rs' ks'].map rxc) rfl hk') rfl rfl ?_)|(apply z0s;refine z02 (z0w rfl) rfl rfl ?_)|(apply z0j;first|refine zfo (first:=[]) (cap:=[]) hhe rfl rfl rfl (by decide) ?_|refine z29 c ?_)|(apply z18;refine z0b z43 ?_))|(apply z06;first|refine z0m ?_|apply z09)|(apply z07;first|apply z08|apply z00|apply z04|apply z01|apply z03|refine z0h (fun _=>?_) fun _=>?_)
 all_goals try omega
 rw[hn]
 have hn6:n≤1000000:=by omega
 refine zg0 (X:=rlX n idR) (pre:=[(3,.box ([z2g op,z2g mn,z2g mx,rgs [],D.slice ([Rx.mk op' mn' mx' rs' ks'].map rxc)].map PV.d))]) (pre':=[(3,.box ([z2g op,z2g mn,z2g mx,rgs [],D.slice ([Rx.mk op' mn' mx' rs' ks'].map rxc)].map PV.d))]) (tm':=[(3,.ptr (0,3) 0),(7,I .i64 (n:Nat)),(17,zat n b),(18,zat n idR),(19,I .i64 0)]) ⟨.inl rfl,.inl rfl,.inl rfl,.inr ⟨rfl,rfl⟩,.inl rfl,trivial⟩ rfl rfl ?_
 refine z0r ?_
 refine z0d (z1o (fun i:Nat=>⟨168,[(3,.ptr (0,3) 0),(7,I .i64 (n:Nat)),(17,zat n b),(18,zat n (zhr n b i)),(19,I .i64 (i:Nat))],[(3,.box ([z2g op,z2g mn,z2g mx,rgs [],D.slice ([Rx.mk op' mn' mx' rs' ks'].map rxc)].map PV.d))],H⟩) (fun i=>(i:Int)≤mn) (fun i=>mn.toNat-i) ?_ 0 (by simpa using m0)) rfl rfl
 intro i hi ihl
 by_cases hlt:(i:Int)<mn
 ·have hth:=zlw n hn6 (zhr n b i) b
  have ih':=ihl (i+1) (by omega) (by omega)
  repeat' first|(apply z05;first|refine z0n ?_| (apply z0a;refine z02 z16 rfl rfl ?_)|(apply z0c;refine z02 z0i rfl rfl ?_)|(apply z0t;refine z02 (z0z z1h) rfl rfl ?_)|(apply z0j;refine z29 hth ?_))|(apply z06;first|refine z0m ?_|apply z09)|(apply z07;first|apply z08|apply z00|apply z04|apply z01|apply z03|refine z0h (fun _=>?_) (fun _=>?_)| refine z0o ?_)
  all_goals try omega
  exact z0d ih' rfl rfl
 obtain rfl:mn=(i:Nat):=by omega
 rw[y49,zA9]
 by_cases hx:mx<0
 ·rw[zAz hx]
  have hhe:zm1 prog 180 [I .i64 (n:Nat)] (zck n idR) (.ref (0,1000)):=zvy n hn6
  have hor:=y4b n hn6 idR b
  repeat' first|(apply z05;first|refine z0n ?_| (apply z0a;refine z02 z16 rfl rfl ?_)|(apply z0c;refine z02 z0i rfl rfl ?_)|(apply z0s;refine z02 (zm7 (m:=(0,1000)) (e':=193) (cs:=zaa 0 (rlX n (orR idR b)).length) rfl) rfl rfl ?_)|(apply z0j;first|refine zmm (pre:=[(3,.box ([z2g op,z2g (i:Nat),z2g mx,rgs [],D.slice ([Rx.mk op' mn' mx' rs' ks'].map rxc)].map PV.d))]) hor rfl (fun s b hb=>hb) rfl (by rw[z2k,z2k]) (by decide) ?_|refine zfo (first:=[]) (cap:=[]) hhe rfl rfl rfl (by decide) ?_))|(apply z06;first|refine z0m ?_|apply z09)|(apply z07;first|apply z08|apply z00|apply z04|apply z01|refine z0h (fun _=>?_) (fun _=>?_)| refine z0o ?_)
  all_goals try omega
  rw[z2v,z2k]
  obtain⟨S0,hS0⟩:∃S0,orR idR b=S0:=⟨_,rfl⟩
  obtain⟨SR,hSR⟩:∃SR,wfO n S0 (n+1)=SR:=⟨_,rfl⟩
  rw[ztx,hS0,hSR,show rlX n S0=rlX n (wfO n S0 0)from rfl]
  refine z0r ?_
  refine zjo (z1o (fun k:Nat=>⟨168,[(18,zat n (zhr n b i)),(20,.ref (0,1000)),(119,I .i64 ((n+1:Nat):Int)),(120,I .i64 (k:Nat))],[(3,.box ([z2g op,z2g (i:Nat),z2g mx,rgs [],D.slice ([Rx.mk op' mn' mx' rs' ks'].map rxc)].map PV.d))]++zck n (wfO n S0 k),H⟩) (fun k=>k≤n+1) (fun k=>n+1-k) ?_ 0 (zAf _)) rfl
  intro k hk ihk
  by_cases hlk:k<n+1
  ·have ihk':=ihk (k+1) (by omega) (by omega)
   repeat' first|(apply z05;first|refine z0n ?_| (apply z0s;refine z02 (zm7 (m:=(0,1000)) (e':=193) (cs:=zaa 0 (rlX n (wfO n S0 k)).length) rfl) rfl rfl ?_))|(apply z06;first|refine z0m ?_|apply z09)|(apply z07;first|apply z08|apply z00|apply z04|apply z01|refine z0h (fun _=>?_) (fun _=>?_)| refine z0o ?_)
   all_goals try omega
   rw[z2v,z2k]
   obtain⟨S1,hS1⟩:∃S1,wfO n S0 k=S1:=⟨_,rfl⟩
   rw[wfO,hS1]at ihk'
   rw[hS1,show zck n S1=zck n (wfI k S1 0)from rfl]
   refine z0r ?_
   refine zjo (z1o (fun j:Nat=>⟨168,[(18,zat n (zhr n b i)),(20,.ref (0,1000)),(21,I .i64 (k:Nat)),(119,I .i64 ((n+1:Nat):Int)),(120,I .i64 (k:Nat)),(124,I .i64 ((n+1:Nat):Int)),(125,I .i64 (j:Nat))],[(3,.box ([z2g op,z2g (i:Nat),z2g mx,rgs [],D.slice ([Rx.mk op' mn' mx' rs' ks'].map rxc)].map PV.d))]++zck n (wfI k S1 j),H⟩) (fun j=>j≤n+1) (fun j=>n+1-j) ?_ 0 (zAf _)) rfl
   intro j hj ihj
   by_cases hlj:j<n+1
   ·have ihj':=ihj (j+1) (by omega) (by omega)
    rw[wfI]at ihj'
    generalize wfI k S1 j=S at ihj'⊢
    have hcj:=zbe (n:=n) (a:=S) (show j≤n by omega)
    have hck:=zbe (n:=n) (a:=S) (show k≤n by omega)
    have hrj:=zgq (e:=193) (e0:=182) (pre:=[(3,.box ([z2g op,z2g (i:Nat),z2g mx,rgs [],D.slice ([Rx.mk op' mn' mx' rs' ks'].map rxc)].map PV.d))]) rfl (z7r n S (show j≤n by omega))
    have hrk:=zgq (e:=193) (e0:=182) (pre:=[(3,.box ([z2g op,z2g (i:Nat),z2g mx,rgs [],D.slice ([Rx.mk op' mn' mx' rs' ks'].map rxc)].map PV.d))]) rfl (z7r n S (show k≤n by omega))
    have hh:=y22 n (S j) k (by omega) hn6 (0,5000+j)
    cases hb:S j k with
    | true =>
     rw[hb]at hh
     rw[wf1,zAz hb,show zck n (zm5 S j fun x=>S j x||S k x)=fam 193 182 ((rlX n S).set j (wds n fun x=>S j x||S k x)) by rw[zde]]at ihj'
     by_cases hjk:j=k
     ·subst hjk
      have hjn:=zzu n (S j) hn6 (5000+j)
      repeat' (first | (apply z05; (first | refine z0n ?_| (apply z0a; (refine z02 (z6j hcj rfl rfl) rfl rfl ?_)) | (apply z0k; (refine z02 (z5i rfl (by omega) (by rw [z2v, z2k]; omega) rfl) rfl rfl ?_)) | (apply z0t; (refine z02 (z0z z1h) rfl rfl ?_)) | (apply z0j; (first | refine za1 hjn rfl hrj (by decide) ?_ | refine z4u hh rfl (bk1 hrj) (by decide) ?_)))) | (apply z06; (first | refine z0m ?_ | apply z09)) | (apply z07; (first | apply z08 | apply z00 | refine z1j ?_| apply z04 | apply z01 | apply z2o | apply z03 | refine z0h (fun _ => ?_) (fun _ => ?_)| refine z0o ?_)) | (apply z2m; (first | refine z2w ?_| (apply z0v; (refine z0x (z6j hcj rfl rfl) rfl rfl ?_)) | (apply z1i; (refine z0x (z5i rfl (by omega) (by rw [z2v, z2k]; omega) rfl) rfl rfl ?_)) | (apply z1s; ((refine zbb mix (by kernel_rfl) ?_) /- zcj -/)))))
      all_goals try omega
      exact zD45
     ·have hjn:=y06 n (S j) (S k) hn6 (5000+j) (5000+k) (by omega)
      repeat' (first | (apply z05; (first | refine z0n ?_| (apply z0a; (refine z02 (z6j hcj rfl rfl) rfl rfl ?_)) | (apply z0k; (refine z02 (z5i rfl (by omega) (by rw [z2v, z2k]; omega) rfl) rfl rfl ?_)) | (apply z0t; (refine z02 (z0z z1h) rfl rfl ?_)) | (apply z0j; (first | refine y23 hjn rfl hrj (bk1 hrk) (by decide) ?_ | refine z4u hh rfl (bk1 hrj) (by decide) ?_)))) | (apply z06; (first | refine z0m ?_ | apply z09)) | (apply z07; (first | apply z08 | apply z00 | refine z1j ?_| apply z04 | apply z01 | apply z2o | apply z03 | refine z0h (fun _ => ?_) (fun _ => ?_)| refine z0o ?_)) | (apply z2m; (first | refine z2w ?_| (apply z0v; (first | refine z0x (z6j hcj rfl rfl) rfl rfl ?_| refine z0x (z6j hck rfl rfl) rfl rfl ?_)) | (apply z1i; (refine z0x (z5i rfl (by omega) (by rw [z2v, z2k]; omega) rfl) rfl rfl ?_)) | (apply z1s; ((refine zbb mix (by kernel_rfl) ?_) /- zcj -/)))))
      all_goals try omega
      exact zD45
    | false =>
     rw[hb]at hh
     rw[wf1,zAy (by rw[hb];decide)]at ihj'
     repeat' first|(apply z05;first|refine z0n ?_| (apply z0a;refine z02 (z6j hcj rfl rfl) rfl rfl ?_)|(apply z0k;refine z02 (z5i rfl (by omega) (by rw[z2v,z2k];omega) rfl) rfl rfl ?_)|(apply z0t;refine z02 (z0z z1h) rfl rfl ?_)|(apply z0j;refine z4u hh rfl (bk1 hrj) (by decide) ?_))|(apply z06;first|refine z0m ?_|apply z09)|(apply z07;first|apply z08|apply z00|refine z15 ?_| apply z04|apply z01|apply z03|refine z0h (fun _=>?_) (fun _=>?_)| refine z0o ?_)
     all_goals try omega
     exact zjo ihj' rfl
   ·obtain rfl:j=n+1:=by omega
    repeat' first|(apply z05;first|refine z0n ?_| (apply z0t;refine z02 (z0z z1h) rfl rfl ?_))|(apply z06;first|refine z0m ?_|apply z09)|(apply z07;first|apply z08|apply z00|apply z04|apply z01|apply z03|refine z0h (fun _=>?_) (fun _=>?_)| refine z0o ?_)
    all_goals try omega
    exact zjo ihk' rfl
  ·obtain rfl:k=n+1:=by omega
   rw[hSR]
   have hth:=zlw n hn6 (zhr n b i) SR
   refine zg0 (X:=rlX n SR) (pre:=[(3,.box ([z2g op,z2g (i:Nat),z2g mx,rgs [],D.slice ([Rx.mk op' mn' mx' rs' ks'].map rxc)].map PV.d))]) (pre':=[]) (tm':=[(18,zat n (zhr n b i)),(20,zat n SR),(119,I .i64 ((n+1:Nat):Int)),(120,I .i64 ((n+1:Nat):Int))]) ⟨.inl rfl,.inr ⟨rfl,rfl⟩,.inl rfl,.inl rfl,trivial⟩ rfl rfl ?_
   repeat' first|(apply z05;first|refine z0n ?_| (apply z0s;refine z02 (z0w rfl) rfl rfl ?_)|(apply z0j;refine z29 hth ?_))|(apply z06;first|refine z0m ?_|apply z09)|(apply z07;first|apply z08|apply z00|apply z04|apply z01|refine z0h (fun _=>?_) (fun _=>?_)| refine z0o ?_)
   all_goals try omega
   all_goals exact z0e func161 _ z0p ⟨rfl,rfl⟩
 ·rw[zAy hx]
  have hnw:zm1 prog 177 [I .i64 (n:Nat)] (zck n ffR) (.ref (0,1000)):=zb6 n hn6
  have hor:=y4b n hn6 ffR (zhr n b i)
  repeat' first|(apply z05;first|refine z0n ?_| (apply z0a;refine z02 z16 rfl rfl ?_)|(apply z0c;refine z02 z0i rfl rfl ?_)|(apply z0j;first|refine zmm (pre:=[(3,.box ([z2g op,z2g (i:Nat),z2g mx,rgs [],D.slice ([Rx.mk op' mn' mx' rs' ks'].map rxc)].map PV.d))]) hor rfl (fun s b hb=>hb) rfl (by rw[z2k,z2k]) (by decide) ?_|refine zfo (first:=[]) (cap:=[]) hnw rfl rfl rfl (by decide) ?_))|(apply z06;first|refine z0m ?_|apply z09)|(apply z07;first|apply z08|apply z00|apply z04|apply z01|refine z0h (fun _=>?_) (fun _=>?_)| refine z0o ?_)
  all_goals try omega
  rw[show rlX n (orR ffR (zhr n b i))=rlX n (zjp n b i 0)from rfl]
  refine z0r ?_
  refine zjo (z1o (fun t:Nat=>⟨168,[(3,.ptr (0,3) 0),(17,zat n b),(18,zat n (zhr n b (i+t))),(23,.ref (0,1000)),(24,I .i64 ((i+t:Nat):Int))],[(3,.box ([z2g op,z2g (i:Nat),z2g mx,rgs [],D.slice ([Rx.mk op' mn' mx' rs' ks'].map rxc)].map PV.d))]++zck n (zjp n b i t),H⟩) (fun t=>(t:Int)≤mx-(i:Nat)) (fun t=>(mx-(i:Nat)).toNat-t) ?_ 0 (by simp;omega)) rfl
  intro t ht iht
  by_cases hlt:((i+t:Nat):Int)<mx
  ·have iht':=iht (t+1) (by omega) (by omega)
   have hth:z0q prog 181 [zat n (zhr n b (i+t)),zat n b] (zat n (zhr n b (i+t+1))):=zlw n hn6 (zhr n b (i+t)) b
   have hor:=y4b n hn6 (zjp n b i t) (zhr n b (i+t+1))
   repeat' first|(apply z05;first|refine z0n ?_| (apply z0a;refine z02 z16 rfl rfl ?_)|(apply z0c;refine z02 z0i rfl rfl ?_)|(apply z0t;refine z02 (z0z z1h) rfl rfl ?_)|(apply z0j;first|refine zmm (pre:=[(3,.box ([z2g op,z2g (i:Nat),z2g mx,rgs [],D.slice ([Rx.mk op' mn' mx' rs' ks'].map rxc)].map PV.d))]) hor rfl (fun s b hb=>hb) rfl (by rw[z2k,z2k]) (by decide) ?_|refine z29 hth ?_))|(apply z06;first|refine z0m ?_|apply z09)|(apply z07;first|apply z08|apply z00|apply z04|apply z01|apply z03|refine z0h (fun _=>?_) (fun _=>?_)| refine z0o ?_)
   all_goals try omega
   exact zjo iht' rfl
  ·obtain rfl:(mx-(i:Nat)).toNat=t:=by omega
   repeat' first|(apply z05;first|refine z0n ?_| (apply z0a;refine z02 z16 rfl rfl ?_)|(apply z0c;refine z02 z0i rfl rfl ?_))|(apply z06;first|refine z0m ?_|apply z09)|(apply z07;first|apply z08|apply z00|apply z04|apply z01|refine z0h (fun _=>?_) (fun _=>?_)| refine z0o ?_)
   all_goals try omega
   all_goals refine zg0 (X:=rlX n (zjp n b i (mx-(i:Nat)).toNat)) (pre:=[(3,.box ([z2g op,z2g (i:Nat),z2g mx,rgs [],D.slice ([Rx.mk op' mn' mx' rs' ks'].map rxc)].map PV.d))]) (pre':=[]) (tm':=[(6,zat n (zjp n b i (mx-(i:Nat)).toNat))]) ⟨.inr ⟨rfl,rfl⟩,trivial⟩ rfl rfl ?_
   all_goals exact z0e func161 _ z0p ⟨rfl,rfl⟩
end Go.Proofs.YtonhfccmeammbaaGreatDoor
