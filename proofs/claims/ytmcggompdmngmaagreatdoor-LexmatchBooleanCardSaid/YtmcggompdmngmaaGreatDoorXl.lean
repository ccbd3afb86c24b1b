/- A part. -/
import Derived.Test.YtmcggompdmngmaaGreatDoorXk
import Derived.Lib.ItoaNum
set_option linter.all false
open Go.Proofs.Tryz
namespace Go.Proofs.YtmcggompdmngmaaGreatDoor
open Go.Ab Go.Ax
set_option maxHeartbeats 20000000
set_option maxRecDepth 100000
attribute [local irreducible] Run Ops Op1 z0y Val Tr z0a z0u NF Rel z27 z29
theorem y8c(d:Array Int)(a b pv:Nat)(h1:a≤pv)(h2:pv<b)(hb:b≤d.size)(hz:d.size≤100000000) :
 z0u prog 177 [.ref (0,1000),I .i64 (a:Nat),I .i64 (b:Nat),I .i64 (pv:Nat)] [((0,1000),rwA d)] [((0,1000),rwA (Go.Sort.partition Go.Sort.ltInt d a b pv).2.2)] (.tup [I .i64 ((Go.Sort.partition Go.Sort.ltInt d a b pv).1:Nat),B (Go.Sort.partition Go.Sort.ltInt d a b pv).2.1]):=by
 refine z0v fun H hH=>?_
 have hX:H 0 1000=some (rwA d):=hH ((0,1000),rwA d) (by simp)
 obtain⟨R,hR⟩:∃R,Go.Sort.partition Go.Sort.ltInt d a b pv=R:=⟨_,rfl⟩
 rw[hR]
 rw[Go.Sort.partition]at hR
 have g0:d.toList[((a:Nat):Int).toNat]? =some d[a]!:=z2e (by omega) (by omega)
 have gc:d.toList[((pv:Nat):Int).toNat]? =some d[pv]!:=z2e (by omega) (by omega)
 have s1:d.toList.set ((a:Nat):Int).toNat d[pv]! =(d.setIfInBounds a d[pv]!).toList:=z2p (by omega) _
 have g1:(d.setIfInBounds a d[pv]!).toList[((pv:Nat):Int).toNat]? =some (d.setIfInBounds a d[pv]!)[pv]!:=z2e (by omega) (by simp;omega)
 have s2:(d.setIfInBounds a d[pv]!).toList.set ((pv:Nat):Int).toNat d[a]! =(Go.Sort.swp d a pv).toList:=z2p (by omega) _
 have z1:(d.setIfInBounds a d[pv]!).size=d.size:=by simp
 have z2:(Go.Sort.swp d a pv).size=d.size:=Go.Sort.swp_size _ _ _
 generalize Go.Sort.swp d a pv=d' at *
 generalize (d.setIfInBounds a d[pv]!)=d0 at *
 simp only at hR
 refine z05 func177 (by kernel_rfl) rfl (by simp) ?_
 dsimp only[f177]
 refine z1k 1000 0 1000 hX rfl rfl ?_
 repeat' first|(apply z0b;first|refine z0c (z0e (u:=z1b d[a]!) g0) rfl rfl ?_| refine z0c (z0e (u:=z1b d[pv]!) gc) rfl rfl ?_)|(apply z02;refine z0c (z1a rfl (by simp only[zA4,zAe];omega)) rfl rfl ?_)|(apply z0t;first|refine z07 (z1i z1e) rfl rfl ?_| refine z07 (z16 z1e) rfl rfl ?_)|(apply z10;first|refine z0j d[pv]! (by first|exact rfl|exact⟨_,rfl,rfl,rfl⟩) rfl rfl rfl rfl g0 rfl rfl rfl s1 ?_|refine z0j d[a]! (by first|exact rfl|exact⟨_,rfl,rfl,rfl⟩) rfl rfl rfl rfl g1 rfl rfl rfl s2 ?_)|refine z04 ?_|fail
 all_goals try omega
 rw[show((b:Nat):Int)-1=(b-1:Nat) by omega,show((a:Nat):Int)+1=(a+1:Nat) by omega]
 clear g0 gc s1 g1 s2 z1
 obtain⟨i,hi⟩:∃i,i=a+1:=⟨_,rfl⟩
 obtain⟨j,hj⟩:∃j,j=b-1:=⟨_,rfl⟩
 rw[←hi,←hj]at hR⊢
 have i3:i≤b+1:=by omega
 have i4:a≤j:=by omega
 obtain⟨ir,hir⟩:∃ir,Go.Sort.scanUp (pL d' a) d' j i=ir:=⟨_,rfl⟩
 change (if Go.Sort.scanUp (pL d' a) d' j i>Go.Sort.scanDown (pR d' a) d' (Go.Sort.scanUp (pL d' a) d' j i) j then _ else _)=R at hR
 rw[hir]at hR
 have ga:d'.toList[((a:Nat):Int).toNat]? =some d'[a]!:=z2e (by omega) (by omega)
 refine z0f ?_
 refine z00 (z0s (fun q:Nat=>⟨168,[(0,.ref (0,1000)),(1,I .i64 (a:Nat)),(10,I .i64 (q:Nat)),(11,I .i64 (j:Nat)),(101000,.al (0,1000) (1,1000))],[(1000,rwA d')],upd H (0,1000) .gone⟩) (fun q=>i≤q∧q≤b+1∧Go.Sort.scanUp (pL d' a) d' j q=ir) (fun q=>j+1-q) ?_ i ⟨zAj _,i3,hir⟩) rfl rfl
 clear hir
 rintro q ⟨q1,q3,q2⟩ ihq
 by_cases hq:q≤j∧d'[q]!<d'[a]!
 ·exact zD59
 clear ihq
 rw[zmf fun g=>hq ⟨g.1,by have:=g.2;simpa[Go.Sort.ltInt]using this⟩]at q2
 subst q2
 have hex:q≤j→¬d'[q]!<d'[a]!:=fun g h=>hq ⟨g,h⟩
 obtain⟨jr,hjr⟩:∃jr,Go.Sort.scanDown (pR d' a) d' q j=jr:=⟨_,rfl⟩
 have gq:q<d'.size→d'.toList[((q:Nat):Int).toNat]? =some d'[q]!:=fun g=>z2e (by omega) g
 rw[hjr]at hR
 by_cases hqj:q≤j
 ·have gq:=gq (by omega)
  have hc:=z1c d'[q]! d'[a]!
  rw[zAo (hex hqj)]at hc
  repeat' first|(apply z0b;first|refine z0c (z0e (u:=z1b d'[q]!) gq) rfl rfl ?_| refine z0c (z0e (u:=z1b d'[a]!) ga) rfl rfl ?_)|(apply z02;refine z0c (z1a rfl (by simp only[zA4,zAe];omega)) rfl rfl ?_)|(apply z0l;refine z3t hc ?_)|refine z04 ?_|(refine z13 (fun hg=>?_) (fun hg=>?_)<;> simp only[hg] <;> (try simp only[zA3,zA5,zA6,zA8]at hg))
  all_goals try omega
  refine z0f ?_
  refine z00 (z0s (fun r:Nat=>⟨168,[(0,.ref (0,1000)),(1,I .i64 (a:Nat)),(10,I .i64 (q:Nat)),(11,I .i64 (r:Nat)),(101000,.al (0,1000) (1,1000))],[(1000,rwA d')],upd H (0,1000) .gone⟩) (fun r=>r≤j∧a≤r∧Go.Sort.scanDown (pR d' a) d' q r=jr) (fun r=>r) ?_ j ⟨zAj _,i4,hjr⟩) rfl rfl
  clear hjr
  clear gq
  rintro r ⟨r1,r3,r2⟩ ihr
  by_cases hr:q≤r∧¬d'[r]!<d'[a]!
  ·exact zD16
  clear ihr
  rw[zbo fun g=>hr ⟨g.1,by have:=g.2;simpa[Go.Sort.ltInt]using this⟩]at r2
  subst r2
  have hex2:q≤r→d'[r]!<d'[a]!:=fun g=>Decidable.byContradiction fun h=>hr ⟨g,h⟩
  by_cases hqr:r<q
  ·exact zD9
  rw[zAy hqr]at hR
  have g0:d'.toList[((q:Nat):Int).toNat]? =some d'[q]!:=z2e (by omega) (by omega)
  have gc:d'.toList[((r:Nat):Int).toNat]? =some d'[r]!:=z2e (by omega) (by omega)
  have s1:d'.toList.set ((q:Nat):Int).toNat d'[r]! =(d'.setIfInBounds q d'[r]!).toList:=z2p (by omega) _
  have g1:(d'.setIfInBounds q d'[r]!).toList[((r:Nat):Int).toNat]? =some (d'.setIfInBounds q d'[r]!)[r]!:=z2e (by omega) (by simp;omega)
  have s2:(d'.setIfInBounds q d'[r]!).toList.set ((r:Nat):Int).toNat d'[q]! =(Go.Sort.swp d' q r).toList:=z2p (by omega) _
  have z1:(d'.setIfInBounds q d'[r]!).size=d'.size:=by simp
  have z2:(Go.Sort.swp d' q r).size=d'.size:=Go.Sort.swp_size _ _ _
  have hc:=z1c d'[r]! d'[a]!
  rw[zAi (hex2 (by omega))]at hc
  obtain⟨RR,hRR⟩:∃RR,Go.Sort.partLoop Go.Sort.ltInt a (q+1) (r-1) (Go.Sort.swp d' q r)=RR:=⟨_,rfl⟩
  rw[hRR]at hR
  subst hR
  generalize Go.Sort.swp d' q r=d2 at *
  generalize (d'.setIfInBounds q d'[r]!)=d1 at *
  repeat' first|(apply z0b;first|refine z0c (z0e (u:=z1b d'[a]!) ga) rfl rfl ?_| refine z0c (z0e (u:=z1b d'[q]!) g0) rfl rfl ?_| refine z0c (z0e (u:=z1b d'[r]!) gc) rfl rfl ?_)|(apply z02;refine z0c (z1a rfl (by simp only[zA4,zAe];omega)) rfl rfl ?_)|(apply z0t;first|refine z07 (z1i z1e) rfl rfl ?_| refine z07 (z16 z1e) rfl rfl ?_)|(apply z0l;refine z3t hc ?_)|(apply z10;first|refine z0j d'[r]! (by first|exact rfl|exact⟨_,rfl,rfl,rfl⟩) rfl rfl rfl rfl g0 rfl rfl rfl s1 ?_|refine z0j d'[q]! (by first|exact rfl|exact⟨_,rfl,rfl,rfl⟩) rfl rfl rfl rfl g1 rfl rfl rfl s2 ?_)|refine z04 ?_|refine fk (fun _=>?_) (fun _=>?_)|(refine z13 (fun hg=>?_) (fun hg=>?_)<;> simp only[hg] <;> (try simp only[zA3,zA5,zA6,zA8]at hg))
  all_goals try omega
  rw[show((r:Nat):Int)-1=(r-1:Nat) by omega]
  refine z0f ?_
  refine z00 (z0s (fun q:Nat × Nat × Array Int=>⟨168,[(0,.ref (0,1000)),(1,I .i64 (a:Nat)),(10,I .i64 (q.1:Nat)),(11,I .i64 (q.2.1:Nat)),(101000,.al (0,1000) (1,1000))],[(1000,rwA q.2.2)],upd H (0,1000) .gone⟩) (fun q=>q.2.2.size=d.size∧a<q.1∧q.1≤b+1∧a≤q.2.1∧q.2.1<b∧Go.Sort.partLoop Go.Sort.ltInt a q.1 q.2.1 q.2.2=RR) (fun q=>q.2.1+1-q.1) ?_ (q+1,r-1,d2) ⟨by simp only;omega,by simp only;omega,by simp only;omega,by simp only;omega,by simp only;omega,hRR⟩) rfl rfl
  have hzd:d'.size=d.size:=by omega
  clear hRR g0 gc s1 g1 s2 z1 z2 hc gq ga hex hex2 hq hr
  clear d2 d1 hi hj i3 i4 q1 q3 r1 r3 hqr hqj hzd
  rintro⟨i,j,d'⟩ ⟨i1,i2,i3,i4,i5,i6⟩ ih
  simp only at i1 i2 i3 i4 i5 i6 ih⊢
  rw[yc8]at i6
  obtain⟨ir,hir⟩:∃ir,Go.Sort.scanUp (pL d' a) d' j i=ir:=⟨_,rfl⟩
  rw[hir]at i6
  have ga:d'.toList[((a:Nat):Int).toNat]? =some d'[a]!:=z2e (by omega) (by omega)
  repeat' first|refine z04 ?_|fail
  refine z0f ?_
  refine z00 (z0s (fun q:Nat=>⟨168,[(0,.ref (0,1000)),(1,I .i64 (a:Nat)),(10,I .i64 (q:Nat)),(11,I .i64 (j:Nat)),(101000,.al (0,1000) (1,1000))],[(1000,rwA d')],upd H (0,1000) .gone⟩) (fun q=>i≤q∧q≤b+1∧Go.Sort.scanUp (pL d' a) d' j q=ir) (fun q=>j+1-q) ?_ i ⟨zAj _,i3,hir⟩) rfl rfl
  clear hir
  rintro q ⟨q1,q3,q2⟩ ihq
  by_cases hq:q≤j∧d'[q]!<d'[a]!
  ·exact zD59
  clear ihq
  rw[zmf fun g=>hq ⟨g.1,by have:=g.2;simpa[Go.Sort.ltInt]using this⟩]at q2
  subst q2
  have hex:q≤j→¬d'[q]!<d'[a]!:=fun g h=>hq ⟨g,h⟩
  obtain⟨jr,hjr⟩:∃jr,Go.Sort.scanDown (pR d' a) d' q j=jr:=⟨_,rfl⟩
  have gq:q<d'.size→d'.toList[((q:Nat):Int).toNat]? =some d'[q]!:=fun g=>z2e (by omega) g
  rw[hjr]at i6
  by_cases hqj:q≤j
  ·have gq:=gq (by omega)
   have hc:=z1c d'[q]! d'[a]!
   rw[zAo (hex hqj)]at hc
   repeat' first|(apply z0b;first|refine z0c (z0e (u:=z1b d'[q]!) gq) rfl rfl ?_| refine z0c (z0e (u:=z1b d'[a]!) ga) rfl rfl ?_)|(apply z02;refine z0c (z1a rfl (by simp only[zA4,zAe];omega)) rfl rfl ?_)|(apply z0l;refine z3t hc ?_)|refine z04 ?_|(refine z13 (fun hg=>?_) (fun hg=>?_)<;> simp only[hg] <;> (try simp only[zA3,zA5,zA6,zA8]at hg))
   all_goals try omega
   exact zD3
  ·have gq:True:=trivial
   have hc:=z1c 0 0
   repeat' first|refine z04 ?_|(refine z13 (fun hg=>?_) (fun hg=>?_)<;> simp only[hg] <;> (try simp only[zA3,zA5,zA6,zA8]at hg))
   all_goals try omega
   exact zD3
 ·have gq:True:=trivial
  have hc:=z1c 0 0
  repeat' first|refine z04 ?_|(refine z13 (fun hg=>?_) (fun hg=>?_)<;> simp only[hg] <;> (try simp only[zA3,zA5,zA6,zA8]at hg))
  all_goals try omega
  refine z0f ?_
  refine z00 (z0s (fun r:Nat=>⟨168,[(0,.ref (0,1000)),(1,I .i64 (a:Nat)),(10,I .i64 (q:Nat)),(11,I .i64 (r:Nat)),(101000,.al (0,1000) (1,1000))],[(1000,rwA d')],upd H (0,1000) .gone⟩) (fun r=>r≤j∧a≤r∧Go.Sort.scanDown (pR d' a) d' q r=jr) (fun r=>r) ?_ j ⟨zAj _,i4,hjr⟩) rfl rfl
  clear hjr
  clear gq
  rintro r ⟨r1,r3,r2⟩ ihr
  by_cases hr:q≤r∧¬d'[r]!<d'[a]!
  ·exact zD16
  clear ihr
  rw[zbo fun g=>hr ⟨g.1,by have:=g.2;simpa[Go.Sort.ltInt]using this⟩]at r2
  subst r2
  have hex2:q≤r→d'[r]!<d'[a]!:=fun g=>Decidable.byContradiction fun h=>hr ⟨g,h⟩
  by_cases hqr:r<q
  ·exact zD9
  ·omega
section
variable{d:Array Int}{b i:Nat}
theorem ycx(h:i<b)(hp:¬d[i]!<d[i-1]!):Go.Sort.scanSorted Go.Sort.ltInt d b i=Go.Sort.scanSorted Go.Sort.ltInt d b (i+1):=by rw[Go.Sort.scanSorted,zAz (by rw[zAi h,Go.Sort.ltInt,zAo hp];rfl)]
theorem y52(h:¬(i<b∧¬d[i]!<d[i-1]!)):Go.Sort.scanSorted Go.Sort.ltInt d b i=i:=by rw[Go.Sort.scanSorted,zAy (by simpa[Go.Sort.ltInt]using h)]
theorem yct(h:1≤i)(hp:d[i]!<d[i-1]!):Go.Sort.shiftDown Go.Sort.ltInt i d=Go.Sort.shiftDown Go.Sort.ltInt (i-1) (Go.Sort.swp d i (i-1)):=by
 obtain⟨k,rfl⟩:∃k,i=k+1:=⟨i-1,by omega⟩
 rw[Go.Sort.shiftDown,zAy (by rw[Go.Sort.ltInt,zAi (show d[k+1]!<d[k]! from hp)];decide)];rfl
theorem y6w(h:¬(1≤i∧d[i]!<d[i-1]!)):Go.Sort.shiftDown Go.Sort.ltInt i d=d:=by
 cases i with
 | zero=>rw[Go.Sort.shiftDown]
 | succ k=>rw[Go.Sort.shiftDown,zAz (by rw[Go.Sort.ltInt,zAo (show ¬d[k+1]!<d[k]! from fun g=>h ⟨by omega,g⟩)];rfl)]
theorem zyp(h:i<b)(hp:d[i]!<d[i-1]!):Go.Sort.shiftUp Go.Sort.ltInt b i d=Go.Sort.shiftUp Go.Sort.ltInt b (i+1) (Go.Sort.swp d i (i-1)):=by rw[Go.Sort.shiftUp,zAz h,zAy (by rw[Go.Sort.ltInt,zAi hp];decide)]
theorem zd7(h:¬(i<b∧d[i]!<d[i-1]!)):Go.Sort.shiftUp Go.Sort.ltInt b i d=d:=by
 rw[Go.Sort.shiftUp]
 by_cases hb:i<b
 ·rw[zAz hb,zAz (by rw[Go.Sort.ltInt,zAo fun g=>h ⟨hb,g⟩];rfl)]
 ·rw[zAy hb]
end
theorem zho(b:Nat):∀(n i:Nat) (d:Array Int),b-i=n→(Go.Sort.shiftUp Go.Sort.ltInt b i d).size=d.size:=by
 intro n
 induction n with
 | zero=>intro i d h;rw[zd7 (by omega)]
 | succ n ih =>
  intro i d h
  by_cases hc:i<b∧d[i]!<d[i-1]!
  ·rw[zyp hc.1 hc.2,ih _ _ (by omega),Go.Sort.swp_size]
  ·rw[zd7 hc]
theorem zwa(d:Array Int)(a b:Nat)(hab:a<b)(hb:b≤d.size)(hz:d.size≤100000000) :
 z0u prog 174 [.ref (0,1000),I .i64 (a:Nat),I .i64 (b:Nat)] [((0,1000),rwA d)] [((0,1000),rwA (Go.Sort.partialInsertionSort Go.Sort.ltInt d a b).1)] (B (Go.Sort.partialInsertionSort Go.Sort.ltInt d a b).2):=by
 refine z0v fun H hH=>?_
 have hX:H 0 1000=some (rwA d):=hH ((0,1000),rwA d) (by simp)
 obtain⟨R,hR⟩:∃R,Go.Sort.partialIns Go.Sort.ltInt a b 5 (a+1) d=R:=⟨_,rfl⟩
 rw[Go.Sort.partialInsertionSort,hR]
 refine z05 func174 (by kernel_rfl) rfl (by simp) ?_
 dsimp only[f174]
 refine z1k 1000 0 1000 hX rfl rfl ?_
 repeat' first|(apply z0t;refine z07 (z16 z1e) rfl rfl ?_)|refine z04 ?_|fail
 all_goals try omega
 refine z0f ?_
 rw[show((a:Nat):Int)+1=(a+1:Nat) by omega]
 refine z00 (z0s (fun q:Nat × Nat × Array Int=>⟨133,[(0,.ref (0,1000)),(1,I .i64 (a:Nat)),(2,I .i64 (b:Nat)),(7,I .i64 (q.2.1:Nat)),(8,I .i64 (q.1:Nat)),(101000,.al (0,1000) (1,1000))],[(1000,rwA q.2.2)],upd H (0,1000) .gone⟩) (fun q=>q.1≤5∧q.2.2.size=d.size∧a<q.2.1∧q.2.1≤b∧Go.Sort.partialIns Go.Sort.ltInt a b (5-q.1) q.2.1 q.2.2=R) (fun q=>5-q.1) ?_ (0,a+1,d) ⟨zAf _,rfl,by simp only;omega,by simp only;omega,hR⟩) rfl rfl
 clear hR
 rintro⟨j,i,d'⟩ ⟨j1,i1,i2,i3,i6⟩ ih
 simp only at j1 i1 i2 i3 i6 ih⊢
 by_cases hj:j=5
 ·subst hj
  rw[Nat.sub_self,Go.Sort.partialIns]at i6
  subst i6
  clear ih
  repeat' first|refine z04 ?_|fail
  all_goals exact zD65
 obtain⟨s,hs⟩:∃s,5-j=s+1:=⟨5-j-1,by omega⟩
 rw[hs,Go.Sort.partialIns]at i6
 simp only at i6
 obtain⟨ir,hir⟩:∃ir,Go.Sort.scanSorted Go.Sort.ltInt d' b i=ir:=⟨_,rfl⟩
 rw[hir]at i6
 repeat' first|refine z04 ?_|refine fk (fun _=>?_) fun _=>?_
 all_goals try omega
 refine z0f ?_
 refine z00 (z0s (fun q:Nat=>⟨133,[(0,.ref (0,1000)),(1,I .i64 (a:Nat)),(2,I .i64 (b:Nat)),(7,I .i64 (q:Nat)),(8,I .i64 (j:Nat)),(101000,.al (0,1000) (1,1000))],[(1000,rwA d')],upd H (0,1000) .gone⟩) (fun q=>a<q∧q≤b∧Go.Sort.scanSorted Go.Sort.ltInt d' b q=ir) (fun q=>b-q) ?_ i ⟨i2,i3,hir⟩) rfl rfl
 clear hir
 rintro q ⟨q1,q3,q2⟩ ihq
 by_cases hq:q<b∧¬d'[q]!<d'[q-1]!
 ·skip
  have g0:d'.toList[((q:Nat):Int).toNat]? =some d'[q]!:=z2e (by omega) (by omega)
  have gc:d'.toList[(((q:Nat):Int)-1).toNat]? =some d'[q-1]!:=z2e (by omega) (by omega)
  have hc:=z1c d'[q]! d'[q-1]!
  rw[zAo hq.2]at hc
  rw[ycx hq.1 hq.2]at q2
  have ih':=ihq (q+1) ⟨by omega,by omega,q2⟩ (by omega)
  obtain⟨hq1,hq2⟩:=hq
  clear ihq ih
  repeat' first|(apply z0b;first|refine z0c (z0e (u:=z1b d'[q]!) g0) rfl rfl ?_| refine z0c (z0e (u:=z1b d'[q-1]!) gc) rfl rfl ?_)|(apply z02;refine z0c (z1a rfl (by simp only[zA4,zAe];omega)) rfl rfl ?_)|(apply z0t;first|refine z07 (z1i z1e) rfl rfl ?_| refine z07 (z16 z1e) rfl rfl ?_)|(apply z19;refine z0c (z1i z1e) rfl rfl ?_)|(apply z0l;refine z3t hc ?_)|refine z04 ?_|refine fk (fun _=>?_) (fun _=>?_)|(refine z13 (fun hg=>?_) (fun hg=>?_)<;> simp only[hg] <;> (try simp only[zA3,zA5,zA6,zA8]at hg))
  all_goals exact zD8
 clear ihq
 rw[y52 hq]at q2
 subst q2
 by_cases hqb:q=b
 ·subst hqb
  rw[zAz rfl]at i6
  subst i6
  have hc:=z1c 0 0
  clear ih
  repeat' first|refine z04 ?_|refine fk (fun _=>?_) (fun _=>?_)|(refine z13 (fun hg=>?_) (fun hg=>?_)<;> simp only[hg] <;> (try simp only[zA3,zA5,zA6,zA8]at hg))
  all_goals exact zD65
 rw[zAy hqb]at i6
 have hlt:d'[q]!<d'[q-1]!:=Decidable.byContradiction fun h=>hq ⟨by omega,h⟩
 have hc:=z1c d'[q]! d'[q-1]!
 rw[zAi hlt]at hc
 by_cases h50:b-a<50
 ·rw[zAz h50]at i6
  subst i6
  have g0:d'.toList[((q:Nat):Int).toNat]? =some d'[q]!:=z2e (by omega) (by omega)
  have gc:d'.toList[(((q:Nat):Int)-1).toNat]? =some d'[q-1]!:=z2e (by omega) (by omega)
  clear ih
  repeat' first|(apply z0b;first|refine z0c (z0e (u:=z1b d'[q]!) g0) rfl rfl ?_| refine z0c (z0e (u:=z1b d'[q-1]!) gc) rfl rfl ?_)|(apply z02;refine z0c (z1a rfl (by simp only[zA4,zAe];omega)) rfl rfl ?_)|(apply z0t;refine z07 (z1i z1e) rfl rfl ?_)|(apply z19;refine z0c (z1i z1e) rfl rfl ?_)|(apply z0l;refine z3t hc ?_)|refine z04 ?_|refine fk (fun _=>?_) (fun _=>?_)|(refine z13 (fun hg=>?_) (fun hg=>?_)<;> simp only[hg] <;> (try simp only[zA3,zA5,zA6,zA8]at hg))
  all_goals exact zD65
 rw[zAy h50]at i6
 have g0:d'.toList[((q:Nat):Int).toNat]? =some d'[q]!:=z2e (by omega) (by omega)
 have gc:d'.toList[(((q:Nat):Int)-1).toNat]? =some d'[q-1]!:=z2e (by omega) (by omega)
 have s1:d'.toList.set ((q:Nat):Int).toNat d'[q-1]! =(d'.setIfInBounds q d'[q-1]!).toList:=z2p (by omega) _
 have g1:(d'.setIfInBounds q d'[q-1]!).toList[(((q:Nat):Int)-1).toNat]? =some (d'.setIfInBounds q d'[q-1]!)[q-1]!:=z2e (by omega) (by simp;omega)
 have s2:(d'.setIfInBounds q d'[q-1]!).toList.set (((q:Nat):Int)-1).toNat d'[q]! =(Go.Sort.swp d' q (q-1)).toList:=z2p (by omega) _
 have z1:(d'.setIfInBounds q d'[q-1]!).size=d'.size:=by simp
 have z2:(Go.Sort.swp d' q (q-1)).size=d'.size:=Go.Sort.swp_size _ _ _
 generalize Go.Sort.swp d' q (q-1)=d2 at *
 generalize (d'.setIfInBounds q d'[q-1]!)=d1 at *
 by_cases hqa:a+2≤q
 ·rw[zAz (show q-a≥2 by omega)]at i6
  obtain⟨D3,hD3⟩:∃D3,Go.Sort.shiftDown Go.Sort.ltInt (q-1) d2=D3:=⟨_,rfl⟩
  rw[hD3]at i6
  repeat' first|(apply z0b;first|refine z0c (z0e (u:=z1b d'[q]!) g0) rfl rfl ?_| refine z0c (z0e (u:=z1b d'[q-1]!) gc) rfl rfl ?_)|(apply z02;refine z0c (z1a rfl (by simp only[zA4,zAe];omega)) rfl rfl ?_)|(apply z0t;first|refine z07 (z1i z1e) rfl rfl ?_| refine z07 (z16 z1e) rfl rfl ?_)|(apply z19;refine z0c (z1i z1e) rfl rfl ?_)|(apply z0l;refine z3t hc ?_)|(apply z10;first|refine z0j d'[q-1]! (by first|exact rfl|exact⟨_,rfl,rfl,rfl⟩) rfl rfl rfl rfl g0 rfl rfl rfl s1 ?_|refine z0j d'[q]! (by first|exact rfl|exact⟨_,rfl,rfl,rfl⟩) rfl rfl rfl rfl g1 rfl rfl rfl s2 ?_)|refine z04 ?_|refine fk (fun _=>?_) (fun _=>?_)|(refine z13 (fun hg=>?_) (fun hg=>?_)<;> simp only[hg] <;> (try simp only[zA3,zA5,zA6,zA8]at hg))
  all_goals try omega
  refine z0f ?_
  rw[show((q:Nat):Int)-1=(q-1:Nat) by omega]
  refine z00 (z0s (fun r:Nat × Array Int=>⟨133,[(0,.ref (0,1000)),(1,I .i64 (a:Nat)),(2,I .i64 (b:Nat)),(7,I .i64 (q:Nat)),(8,I .i64 (j:Nat)),(9,I .i64 (r.1:Nat)),(101000,.al (0,1000) (1,1000))],[(1000,rwA r.2)],upd H (0,1000) .gone⟩) (fun r=>r.2.size=d.size∧r.1<q∧Go.Sort.shiftDown Go.Sort.ltInt r.1 r.2=D3) (fun r=>r.1) ?_ (q-1,d2) ⟨by simp only;omega,by simp only;omega,hD3⟩) rfl rfl
  clear hD3 g0 gc s1 g1 s2 z1 hc
  rintro⟨r,e3⟩ ⟨r1,r2,r3⟩ ihr
  simp only at r1 r2 r3 ihr⊢
  by_cases hr:1≤r∧e3[r]!<e3[r-1]!
  ·rw[yct hr.1 hr.2]at r3
   have g0:e3.toList[((r:Nat):Int).toNat]? =some e3[r]!:=z2e (by omega) (by omega)
   have gc:e3.toList[(((r:Nat):Int)-1).toNat]? =some e3[r-1]!:=z2e (by omega) (by omega)
   have s1:e3.toList.set ((r:Nat):Int).toNat e3[r-1]! =(e3.setIfInBounds r e3[r-1]!).toList:=z2p (by omega) _
   have g1:(e3.setIfInBounds r e3[r-1]!).toList[(((r:Nat):Int)-1).toNat]? =some (e3.setIfInBounds r e3[r-1]!)[r-1]!:=z2e (by omega) (by simp;omega)
   have s2:(e3.setIfInBounds r e3[r-1]!).toList.set (((r:Nat):Int)-1).toNat e3[r]! =(Go.Sort.swp e3 r (r-1)).toList:=z2p (by omega) _
   have z1:(e3.setIfInBounds r e3[r-1]!).size=e3.size:=by simp
   have z2:(Go.Sort.swp e3 r (r-1)).size=e3.size:=Go.Sort.swp_size _ _ _
   have hc:=z1c e3[r]! e3[r-1]!
   rw[zAi hr.2]at hc
   have ihr':=ihr (r-1,Go.Sort.swp e3 r (r-1)) ⟨by simp only;omega,by simp only;omega,r3⟩ (by simp only;omega)
   simp only at ihr'
   obtain⟨hr1,hr2⟩:=hr
   generalize Go.Sort.swp e3 r (r-1)=d6 at *
   generalize (e3.setIfInBounds r e3[r-1]!)=d7 at *
   clear ihr ih r3
   repeat' first|(apply z0b;first|refine z0c (z0e (u:=z1b e3[r]!) g0) rfl rfl ?_| refine z0c (z0e (u:=z1b e3[r-1]!) gc) rfl rfl ?_)|(apply z02;refine z0c (z1a rfl (by simp only[zA4,zAe];omega)) rfl rfl ?_)|(apply z0t;first|refine z07 (z1i z1e) rfl rfl ?_| refine z07 (z16 z1e) rfl rfl ?_)|(apply z19;refine z0c (z1i z1e) rfl rfl ?_)|(apply z0l;refine z3t hc ?_)|(apply z10;first|refine z0j e3[r-1]! (by first|exact rfl|exact⟨_,rfl,rfl,rfl⟩) rfl rfl rfl rfl g0 rfl rfl rfl s1 ?_|refine z0j e3[r]! (by first|exact rfl|exact⟨_,rfl,rfl,rfl⟩) rfl rfl rfl rfl g1 rfl rfl rfl s2 ?_)|refine z04 ?_|refine fk (fun _=>?_) fun _=>?_
   all_goals try omega
   all_goals rw[show((r:Nat):Int)-1=(r-1:Nat) by omega]
   all_goals exact z00 ihr' rfl rfl
  rw[y6w hr]at r3
  subst r3
  clear ihr
  have hz3:e3.size=d.size:=r1
  by_cases hr0:1≤r
  ·skip
   have g0:e3.toList[((r:Nat):Int).toNat]? =some e3[r]!:=z2e (by omega) (by omega)
   have gc:e3.toList[(((r:Nat):Int)-1).toNat]? =some e3[r-1]!:=z2e (by omega) (by omega)
   have hc:=z1c e3[r]! e3[r-1]!
   rw[zAo fun g=>hr ⟨hr0,g⟩]at hc
   by_cases hbq:q+2≤b
   ·obtain⟨D4,hD4⟩:∃D4,Go.Sort.shiftUp Go.Sort.ltInt b (q+1) e3=D4:=⟨_,rfl⟩
    have hz4:=zho b (b-(q+1)) (q+1) e3 rfl
    rw[hD4]at hz4
    rw[zAz (show b-q≥2 by omega),hD4]at i6
    have ih':=ih (j+1,q,D4) ⟨by simp only;omega,by simp only;omega,by simp only;omega,by simp only;omega,by rw[show 5-(j+1)=s by omega];exact i6⟩ (by simp only;omega)
    simp only at ih'
    clear ih i6
    repeat' first|(apply z0b;first|refine z0c (z0e (u:=z1b e3[r]!) g0) rfl rfl ?_| refine z0c (z0e (u:=z1b e3[r-1]!) gc) rfl rfl ?_)|(apply z02;refine z0c (z1a rfl (by simp only[zA4,zAe];omega)) rfl rfl ?_)|(apply z0t;first|refine z07 (z1i z1e) rfl rfl ?_| refine z07 (z16 z1e) rfl rfl ?_)|(apply z19;refine z0c (z1i z1e) rfl rfl ?_)|(apply z0l;refine z3t hc ?_)|refine z04 ?_|refine fk (fun _=>?_) fun _=>?_
    all_goals try omega
    exact zD36
   ·rw[zAy (show ¬b-q≥2 by omega)]at i6
    have ih':=ih (j+1,q,e3) ⟨by simp only;omega,by simp only;omega,by simp only;omega,by simp only;omega,by rw[show 5-(j+1)=s by omega];exact i6⟩ (by simp only;omega)
    simp only at ih'
    clear ih i6
    repeat' first|(apply z0b;first|refine z0c (z0e (u:=z1b e3[r]!) g0) rfl rfl ?_| refine z0c (z0e (u:=z1b e3[r-1]!) gc) rfl rfl ?_)|(apply z02;refine z0c (z1a rfl (by simp only[zA4,zAe];omega)) rfl rfl ?_)|(apply z0t;first|refine z07 (z1i z1e) rfl rfl ?_| refine z07 (z16 z1e) rfl rfl ?_)|(apply z19;refine z0c (z1i z1e) rfl rfl ?_)|(apply z0l;refine z3t hc ?_)|refine z04 ?_|refine fk (fun _=>?_) fun _=>?_
    all_goals exact zD8
  ·have hc:=z1c 0 0
   by_cases hbq:q+2≤b
   ·obtain⟨D4,hD4⟩:∃D4,Go.Sort.shiftUp Go.Sort.ltInt b (q+1) e3=D4:=⟨_,rfl⟩
    have hz4:=zho b (b-(q+1)) (q+1) e3 rfl
    rw[hD4]at hz4
    rw[zAz (show b-q≥2 by omega),hD4]at i6
    have ih':=ih (j+1,q,D4) ⟨by simp only;omega,by simp only;omega,by simp only;omega,by simp only;omega,by rw[show 5-(j+1)=s by omega];exact i6⟩ (by simp only;omega)
    simp only at ih'
    clear ih i6
    repeat' first|(apply z0t;first|refine z07 (z1i z1e) rfl rfl ?_| refine z07 (z16 z1e) rfl rfl ?_)|refine z04 ?_|refine fk (fun _=>?_) fun _=>?_
    all_goals try omega
    exact zD36
   ·rw[zAy (show ¬b-q≥2 by omega)]at i6
    have ih':=ih (j+1,q,e3) ⟨by simp only;omega,by simp only;omega,by simp only;omega,by simp only;omega,by rw[show 5-(j+1)=s by omega];exact i6⟩ (by simp only;omega)
    simp only at ih'
    clear ih i6
    repeat' first|(apply z0t;first|refine z07 (z1i z1e) rfl rfl ?_| refine z07 (z16 z1e) rfl rfl ?_)|refine z04 ?_|refine fk (fun _=>?_) fun _=>?_
    all_goals exact zD8
 ·rw[zAy (show ¬q-a≥2 by omega)]at i6
  have hz3:d2.size=d.size:=by omega
  by_cases hbq:q+2≤b
  ·obtain⟨D4,hD4⟩:∃D4,Go.Sort.shiftUp Go.Sort.ltInt b (q+1) d2=D4:=⟨_,rfl⟩
   have hz4:=zho b (b-(q+1)) (q+1) d2 rfl
   rw[hD4]at hz4
   rw[zAz (show b-q≥2 by omega),hD4]at i6
   have ih':=ih (j+1,q,D4) ⟨by simp only;omega,by simp only;omega,by simp only;omega,by simp only;omega,by rw[show 5-(j+1)=s by omega];exact i6⟩ (by simp only;omega)
   simp only at ih'
   clear ih i6
   repeat' first|(apply z0b;first|refine z0c (z0e (u:=z1b d'[q]!) g0) rfl rfl ?_| refine z0c (z0e (u:=z1b d'[q-1]!) gc) rfl rfl ?_)|(apply z02;refine z0c (z1a rfl (by simp only[zA4,zAe];omega)) rfl rfl ?_)|(apply z0t;first|refine z07 (z1i z1e) rfl rfl ?_| refine z07 (z16 z1e) rfl rfl ?_)|(apply z19;refine z0c (z1i z1e) rfl rfl ?_)|(apply z0l;refine z3t hc ?_)|(apply z10;first|refine z0j d'[q-1]! (by first|exact rfl|exact⟨_,rfl,rfl,rfl⟩) rfl rfl rfl rfl g0 rfl rfl rfl s1 ?_|refine z0j d'[q]! (by first|exact rfl|exact⟨_,rfl,rfl,rfl⟩) rfl rfl rfl rfl g1 rfl rfl rfl s2 ?_)|refine z04 ?_|refine fk (fun _=>?_) (fun _=>?_)|(refine z13 (fun hg=>?_) (fun hg=>?_)<;> simp only[hg] <;> (try simp only[zA3,zA5,zA6,zA8]at hg))
   all_goals try omega
   refine z0f ?_
   refine z00 (z0s (fun r:Nat × Array Int=>⟨133,[(0,.ref (0,1000)),(1,I .i64 (a:Nat)),(2,I .i64 (b:Nat)),(7,I .i64 (q:Nat)),(8,I .i64 (j:Nat)),(10,I .i64 (r.1:Nat)),(101000,.al (0,1000) (1,1000))],[(1000,rwA r.2)],upd H (0,1000) .gone⟩) (fun r=>r.2.size=d.size∧q<r.1∧r.1≤b∧Go.Sort.shiftUp Go.Sort.ltInt b r.1 r.2=D4) (fun r=>b-r.1) ?_ (q+1,d2) ⟨hz3,by simp only;omega,by simp only;omega,hD4⟩) rfl rfl
   exact zD2
  ·rw[zAy (show ¬b-q≥2 by omega)]at i6
   have ih':=ih (j+1,q,d2) ⟨by simp only;omega,by simp only;omega,by simp only;omega,by simp only;omega,by rw[show 5-(j+1)=s by omega];exact i6⟩ (by simp only;omega)
   simp only at ih'
   clear ih i6
   repeat' first|(apply z0b;first|refine z0c (z0e (u:=z1b d'[q]!) g0) rfl rfl ?_| refine z0c (z0e (u:=z1b d'[q-1]!) gc) rfl rfl ?_)|(apply z02;refine z0c (z1a rfl (by simp only[zA4,zAe];omega)) rfl rfl ?_)|(apply z0t;first|refine z07 (z1i z1e) rfl rfl ?_| refine z07 (z16 z1e) rfl rfl ?_)|(apply z19;refine z0c (z1i z1e) rfl rfl ?_)|(apply z0l;refine z3t hc ?_)|(apply z10;first|refine z0j d'[q-1]! (by first|exact rfl|exact⟨_,rfl,rfl,rfl⟩) rfl rfl rfl rfl g0 rfl rfl rfl s1 ?_|refine z0j d'[q]! (by first|exact rfl|exact⟨_,rfl,rfl,rfl⟩) rfl rfl rfl rfl g1 rfl rfl rfl s2 ?_)|refine z04 ?_|refine fk (fun _=>?_) (fun _=>?_)|(refine z13 (fun hg=>?_) (fun hg=>?_)<;> simp only[hg] <;> (try simp only[zA3,zA5,zA6,zA8]at hg))
   all_goals exact zD8
def xsn(x:Int):Int :=
 zzi .u64 (zzi .u64 (zzi .u64 x (zkr .u64 x 13)) (zr8 .u64 (zzi .u64 x (zkr .u64 x 13)) 7)) (zkr .u64 (zzi .u64 (zzi .u64 x (zkr .u64 x 13)) (zr8 .u64 (zzi .u64 x (zkr .u64 x 13)) 7)) 17)
theorem y2e(x m:Int)(h1:1≤m)(h2:m≤1000000000):0≤zf3 .u64 x (m-1)∧zf3 .u64 x (m-1)<m:=by
 have h:(BitVec.ofInt 64 x &&& BitVec.ofInt 64 (m-1)).toNat≤(m-1).toNat:=by
  rw[BitVec.toNat_and]
  refine Nat.le_trans Nat.and_le_right ?_
  rw[BitVec.toNat_ofInt]
  omega
 have e:zf3 .u64 x (m-1)=((BitVec.ofInt 64 x &&& BitVec.ofInt 64 (m-1)).toNat:Int):=by
  show IntKind.u64.wrap ((BitVec.ofInt 64 x &&& BitVec.ofInt 64 (m-1)).toNat:Int)=_
  exact zr4 (by omega) (by omega)
 rw[e]
 omega
theorem npow_eq(n:Nat)(h1:1≤n)(h2:n≤100000000):1≤zkr .u64 1 (Lib.bitLen n)∧zkr .u64 1 (Lib.bitLen n)≤2*n:=by
 obtain⟨h0,s2,s1⟩:1≤Lib.bitLen n∧2 ^ (Lib.bitLen n-1)≤n∧n<2 ^ Lib.bitLen n:=Lib.bitLenAux_bounds 64 n (by omega) (by omega)
 have h3:Lib.bitLen n≤30:=by
  refine Nat.le_of_not_lt fun h=>?_
  have:=Nat.pow_le_pow_right (show 0<2 by decide) (show 30≤Lib.bitLen n-1 by omega)
  omega
 have e2:2 ^ (Lib.bitLen n)=2*2 ^ (Lib.bitLen n-1):=by
  obtain⟨k,hk⟩:∃k,Lib.bitLen n=k+1:=⟨Lib.bitLen n-1,by omega⟩
  rw[hk,Nat.pow_succ,Nat.add_sub_cancel,Nat.mul_comm]
 have e:zkr .u64 1 (Lib.bitLen n)=((2 ^ (Lib.bitLen n):Nat):Int):=by
  have h5:min ((Lib.bitLen n:Int)).toNat IntKind.u64.bits=Lib.bitLen n:=Nat.min_eq_left (by show _≤64;omega)
  have h6:(2:Int) ^ Lib.bitLen n=((2 ^ (Lib.bitLen n):Nat):Int):=by simp
  rw[zkr,h5,Int.one_mul,h6]
  exact zr4 (by omega) (by omega)
 have:=Nat.one_le_two_pow (n:=Lib.bitLen n)
 rw[e]
 omega
theorem y8j(n:Nat)(h2:n≤100000000):z0a prog 182 [I .i64 (n:Nat)] (I .u64 (zkr .u64 1 (Lib.bitLen n))):=by
 refine z0q fun H=>?_
 have hb:=zk0 n (by omega) (by omega)
 rw[zA9]at hb
 refine z05 func182 (by kernel_rfl) rfl (by simp) ?_
 dsimp only[f182]
 repeat' first|(apply z0t;refine z07 (zmn (by omega)) rfl rfl ?_)|(apply z06;refine z1o hb ?_)|(apply z4q;refine z07 (z8u rfl rfl (zr4 (by omega) (by omega))) rfl rfl ?_)|refine z04 ?_|fail
 all_goals exact z03 func182 _ z1h ⟨rfl,rfl⟩
abbrev bxU(x:Int):Blk:=.box [.d (.lit (.int .u64 x))]
theorem y6m(x:Int):z0u prog 183 [.ptr (0,900) 0] [((0,900),bxU x)] [((0,900),bxU (xsn x))] (I .u64 (xsn x)):=by
 refine z0v fun H hH=>?_
 have hB:H 0 900=some (bxU x):=hH ((0,900),bxU x) (by simp)
 rw[xsn]
 refine z05 func183 (by kernel_rfl) rfl (by simp) ?_
 dsimp only[f183]
 refine z4d 900 0 900 hB rfl rfl ?_
 repeat' first|(apply z19;first|refine z0c (zmn (by decide)) rfl rfl ?_| refine z0c (z99 (by decide)) rfl rfl ?_| refine z0c y88 rfl rfl ?_)|refine z04 ?_|fail
 all_goals refine z3a (raw:=bxU _) 900 0 900 ?_
 all_goals exact z03 func183 _ z1h ⟨rfl,by simp[z6j,z1m]⟩
def oth(n:Nat)(m x:Int):Nat:=if zf3 .u64 x (m-1)≥(n:Int)then(zf3 .u64 x (m-1)-n).toNat else(zf3 .u64 x (m-1)).toNat
def bpF(a n:Nat)(m:Int):Nat→Nat→Int→Array Int→Array Int
 | 0,_,_,d=>d
 | k+1,i,x,d=>bpF a n m k (i+1) (xsn x) (Go.Sort.swp d i (a+oth n m (xsn x)))
theorem y22{n:Nat}{m x:Int}(h0:1≤n)(hn:n≤100000000)(h1:1≤m)(h2:m≤2*n):oth n m x<n:=by
 have:=y2e x m h1 (by omega)
 rw[oth]
 split <;> omega
theorem ztc{a b n:Nat}{m:Int}(h0:1≤n)(hn:n≤100000000)(h1:1≤m)(h2:m≤2*n)(hb:a+n=b):∀(k i:Nat) (x:Int) (d:Array Int),a≤i→i+k≤b→b≤d.size→Go.Sort.PermIn a b d (bpF a n m k i x d)
 | 0,i,x,d,_,_,_=>Go.Sort.permIn_refl d a b
 | k+1,i,x,d,hi,hk,hd=>by
  have ho:=y22 (x:=xsn x) h0 hn h1 h2
  exact Go.Sort.permIn_trans _ _ _ a b (Go.Sort.swp_permIn d a b i (a+oth n m (xsn x)) hi (by omega) (by omega) (by omega) hd) (ztc h0 hn h1 h2 hb k (i+1) (xsn x) _ (by omega) (by omega) (by rw[Go.Sort.swp_size];exact hd))
theorem y3s(d:Array Int)(a n:Nat)(h8:8≤n)(hb:a+n≤d.size)(hz:d.size≤100000000) :
 ∃d',Go.Sort.PermIn a (a+n) d d'∧z0u prog 171 [.ref (0,1000),I .i64 (a:Nat),I .i64 ((a+n:Nat):Int)] [((0,1000),rwA d)] [((0,1000),rwA d')] (.tup []):=by
 obtain⟨m,hm⟩:∃m,zkr .u64 1 (Lib.bitLen n)=m:=⟨_,rfl⟩
 obtain⟨m1,m2⟩:=npow_eq n (by omega) (by omega)
 have hnp:z0a prog 182 [I .i64 (((a+n:Nat):Int)-(a:Nat))] (I .u64 (zkr .u64 1 (Lib.bitLen n))):=by
  rw[show((a+n:Nat):Int)-(a:Nat)=(n:Nat) by omega]
  exact y8j n (by omega)
 rw[hm]at m1 m2 hnp
 have en:((a+n:Nat):Int)-(a:Nat)=(n:Nat):=by omega
 obtain⟨R,hR⟩:∃R,bpF a n m 3 (a+n / 4*2-1) n d=R:=⟨_,rfl⟩
 refine⟨R,hR▸ztc (by omega) (by omega) m1 m2 rfl _ _ _ _ (by omega) (by omega) hb,z0v fun H hH=>?_⟩
 have hX:H 0 1000=some (rwA d):=hH ((0,1000),rwA d) (by simp)
 refine z05 func171 (by kernel_rfl) rfl (by simp) ?_
 dsimp only[f171]
 refine z1k 1000 0 1000 hX rfl rfl ?_
 have en:((a+n:Nat):Int)-(a:Nat)=(n:Nat):=by omega
 have ei:((a:Nat):Int)+(n:Nat) / 4*2-1=((a+n / 4*2-1:Nat):Int):=by omega
 repeat' first|(apply z0t;first|refine z07 (z1i z1e) rfl rfl ?_| refine z07 (z8p (by omega) (by decide) z1e) rfl rfl ?_| refine z07 (z7l z1e) rfl rfl ?_)|(apply z06;refine z1o hnp ?_)|(apply z1s;(refine z09 z4t ?_;refine zie 7 900 rfl rfl ?_))|(apply z4q;refine z07 (z8u rfl rfl (zr4 (by omega) (by omega))) rfl rfl ?_)|refine z04 ?_|refine fk (fun _=>?_) fun _=>?_
 all_goals try omega
 all_goals rw[en,ei]
 refine z0f ?_
 refine z00 (z0s (fun q:Nat × Nat × Int × Array Int=>⟨65,[(0,.ref (0,1000)),(1,I .i64 (a:Nat)),(6,I .i64 (n:Nat)),(7,.ptr (0,900) 0),(8,I .u64 m),(9,I .i64 (q.2.1:Nat)),(101000,.al (0,1000) (1,1000))],[(1000,rwA q.2.2.2),(900,bxU q.2.2.1)],upd H (0,1000) .gone⟩) (fun q=>q.2.2.2.size=d.size∧q.2.1+q.1=a+n / 4*2+2∧q.1≤3∧bpF a n m q.1 q.2.1 q.2.2.1 q.2.2.2=R) (fun q=>q.1) ?_ (3,a+n / 4*2-1,(n:Nat),d) ⟨rfl,by simp only;omega,by simp only;omega,hR⟩) rfl rfl
 rintro⟨k,i,x,d'⟩ ⟨i1,i2,i3,i4⟩ ih
 simp only at i1 i2 i3 i4 ih⊢
 cases k with
 | zero =>
  rw[bpF]at i4
  subst i4
  clear ih
  repeat' first|(apply z0t;first|refine z07 (z8p (by omega) (by decide) z1e) rfl rfl ?_| refine z07 (z7l z1e) rfl rfl ?_)|refine z04 ?_|refine fk (fun _=>?_) fun _=>?_
  all_goals try omega
  refine z3a (raw:=rwA d') 1000 0 1000 ?_
  refine ze8 func171 _ (z2o rfl) ⟨rfl,?_⟩
  simp[z6j,z1m]
 | succ k =>
  rw[bpF]at i4
  have hx:=y6m x
  have ho:=y22 (x:=xsn x) (n:=n) (m:=m) (by omega) (by omega) m1 m2
  obtain⟨v1,v2⟩:=y2e (xsn x) m m1 (by omega)
  obtain⟨o,hoe⟩:∃o,oth n m (xsn x)=o:=⟨_,rfl⟩
  rw[hoe]at ho i4
  rw[oth]at hoe
  obtain⟨y,hy⟩:∃y,y=a+o:=⟨_,rfl⟩
  rw[←hy]at i4
  have ih':=ih (k,i+1,xsn x,Go.Sort.swp d' i y) ⟨by rw[Go.Sort.swp_size];exact i1,by simp only;omega,by simp only;omega,i4⟩ (by simp only;omega)
  simp only at ih'
  clear ih i4 hR
  by_cases c:zf3 .u64 (xsn x) (m-1)≥(n:Int)
  ·rw[zAz c]at hoe
   have g0:d'.toList[((i:Nat):Int).toNat]? =some d'[i]!:=z2e (by omega) (by omega)
   have gc:d'.toList[((a:Int)+(zf3 .u64 (xsn x) (m-1)-(n:Int))).toNat]? =some d'[y]!:=z2e (by omega) (by omega)
   have s1:d'.toList.set ((i:Nat):Int).toNat d'[y]! =(d'.setIfInBounds i d'[y]!).toList:=z2p (by omega) _
   have g1:(d'.setIfInBounds i d'[y]!).toList[((a:Int)+(zf3 .u64 (xsn x) (m-1)-(n:Int))).toNat]? =some (d'.setIfInBounds i d'[y]!)[y]!:=z2e (by omega) (by simp;omega)
   have s2:(d'.setIfInBounds i d'[y]!).toList.set ((a:Int)+(zf3 .u64 (xsn x) (m-1)-(n:Int))).toNat d'[i]! =(Go.Sort.swp d' i y).toList:=z2p (by omega) _
   exact zD13
  ·rw[zAy c]at hoe
   have g0:d'.toList[((i:Nat):Int).toNat]? =some d'[i]!:=z2e (by omega) (by omega)
   have gc:d'.toList[((a:Int)+zf3 .u64 (xsn x) (m-1)).toNat]? =some d'[y]!:=z2e (by omega) (by omega)
   have s1:d'.toList.set ((i:Nat):Int).toNat d'[y]! =(d'.setIfInBounds i d'[y]!).toList:=z2p (by omega) _
   have g1:(d'.setIfInBounds i d'[y]!).toList[((a:Int)+zf3 .u64 (xsn x) (m-1)).toNat]? =some (d'.setIfInBounds i d'[y]!)[y]!:=z2e (by omega) (by simp;omega)
   have s2:(d'.setIfInBounds i d'[y]!).toList.set ((a:Int)+zf3 .u64 (xsn x) (m-1)).toNat d'[i]! =(Go.Sort.swp d' i y).toList:=z2p (by omega) _
   exact zD13
end Go.Proofs.YtmcggompdmngmaaGreatDoor
