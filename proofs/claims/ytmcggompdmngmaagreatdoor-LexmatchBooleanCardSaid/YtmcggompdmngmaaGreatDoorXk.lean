/- A part. -/
import Derived.Test.YtmcggompdmngmaaGreatDoorX4
import Derived.Sort.AssemblyPlain
set_option linter.all false
open Go.Proofs.Tryz
namespace Go.Proofs.YtmcggompdmngmaaGreatDoor
open Go.Ab Go.Ax
set_option maxHeartbeats 20000000
set_option maxRecDepth 100000
attribute [local irreducible] Run Ops Op1 z0y Val Tr z0a z0u NF Rel z27 z29
abbrev rwA(d:Array Int):Blk:=.row 21 1 (d.toList.map rcc)
theorem z2e{d:Array Int}{j:Int}{i:Nat}(hj:j=i)(h:i<d.size):d.toList[j.toNat]? =some d[i]!:=by
 subst hj
 rw[zA9,getElem!_pos d i h,Array.getElem?_toList,Array.getElem?_eq_getElem h]
theorem z2p{d:Array Int}{j:Int}{i:Nat}(hj:j=i)(v:Int):d.toList.set j.toNat v=(d.setIfInBounds i v).toList:=by
 subst hj
 rw[zA9,Array.toList_setIfInBounds]
theorem ybf{hi F r:Nat}{d:Array Int}(h1:¬hi≤2*r+1)(h2:2*r+2<hi)(h:d[F+(2*r+1)]!<d[F+(2*r+2)]!):Go.Sort.siftDown Go.Sort.ltInt hi F r d=if d[F+r]!<d[F+(2*r+2)]! then Go.Sort.siftDown Go.Sort.ltInt hi F (2*r+2) (Go.Sort.swp d (F+r) (F+(2*r+2)))else d:=by
 have h':d[F+(2*r+1)]!<d[F+(2*r+1)+1]!:=h
 have h2':2*r+1+1<hi:=h2
 rw[Go.Sort.siftDown,dif_neg h1,zAz (by rw[zAi h2',Go.Sort.ltInt,zAi h'];rfl)]
 by_cases h3:d[F+r]!<d[F+(2*r+2)]!
 ·rw[zAz h3,zAy (by rw[Go.Sort.ltInt,zAi h3];decide),dif_pos h2]
 ·rw[zAy h3,zAz (by rw[Go.Sort.ltInt,zAo h3];rfl)]
theorem y8z{hi F r:Nat}{d:Array Int}(h1:¬hi≤2*r+1)(h:¬(2*r+2<hi∧d[F+(2*r+1)]!<d[F+(2*r+2)]!)):Go.Sort.siftDown Go.Sort.ltInt hi F r d=if d[F+r]!<d[F+(2*r+1)]! then Go.Sort.siftDown Go.Sort.ltInt hi F (2*r+1) (Go.Sort.swp d (F+r) (F+(2*r+1)))else d:=by
 have h':¬(2*r+1+1<hi∧d[F+(2*r+1)]!<d[F+(2*r+1)+1]!):=h
 rw[Go.Sort.siftDown,dif_neg h1,zAy (by rw[Go.Sort.ltInt,←Bool.decide_and,zA3];exact h')]
 by_cases h3:d[F+r]!<d[F+(2*r+1)]!
 ·rw[zAz h3,zAy (by rw[Go.Sort.ltInt,zAi h3];decide)]
 ·rw[zAy h3,zAz (by rw[Go.Sort.ltInt,zAo h3];rfl)]
theorem y13(F hi lo:Nat)(d:Array Int)(hb:F+hi≤d.size)(hlo:lo≤100000000)(hs:d.size≤100000000) :
 z0u prog 199 [.ref (0,1000),I .i64 (lo:Nat),I .i64 (hi:Nat),I .i64 (F:Nat)] [((0,1000),rwA d)] [((0,1000),rwA (Go.Sort.siftDown Go.Sort.ltInt hi F lo d))] (.tup []):=by
 refine z0v fun H hH=>?_
 have hH0:=hH ((0,1000),rwA d) (by simp)
 obtain⟨R,hR⟩:∃R,Go.Sort.siftDown Go.Sort.ltInt hi F lo d=R:=⟨_,rfl⟩
 rw[hR]
 refine z05 func199 (by kernel_rfl) rfl (by simp) ?_
 dsimp only[f199]
 refine z1k 1000 0 1000 hH0 rfl rfl ?_
 repeat' first|refine z04 ?_|fail
 refine z0f ?_
 refine z00 (z0s (fun q:Nat × Array Int=>⟨76,[(0,.ref (0,1000)),(2,I .i64 (hi:Nat)),(3,I .i64 (F:Nat)),(8,I .i64 (q.1:Nat)),(101000,.al (0,1000) (1,1000))],[(1000,rwA q.2)],upd H (0,1000) .gone⟩) (fun q=>q.2.size=d.size∧q.1≤100000000∧Go.Sort.siftDown Go.Sort.ltInt hi F q.1 q.2=R) (fun q=>hi-q.1) ?_ (lo,d) ⟨rfl,hlo,hR⟩) rfl rfl
 rintro⟨r,d'⟩ ⟨i1,i3,i2⟩ ih
 simp only at i1 i2 i3 ih⊢
 by_cases h1:hi≤2*r+1
 ·have hR:d'=R:=by rw[←i2,Go.Sort.siftDown,dif_pos h1]
  rw[←hR]
  clear ih i2
  repeat' first|(apply z0t;first|refine z07 (z7l z1e) rfl rfl ?_| refine z07 (z16 z1e) rfl rfl ?_)|(apply z19;refine z0c (z16 z1e) rfl rfl ?_)|refine z04 ?_|refine fk (fun _=>?_) (fun _=>?_)|(refine z13 (fun hg=>?_) (fun hg=>?_)<;> simp only[hg] <;> (try simp only[zA3,zA5,zA6,zA8]at hg))
  all_goals try omega
  all_goals refine z3a (raw:=rwA d') 1000 0 1000 ?_
  all_goals refine ze8 func199 _ (z2o rfl) ⟨rfl,?_⟩
  all_goals simp[z6j,z1m]
 ·have ga:d'.toList[((F:Int)+(2*(r:Int)+1)).toNat]? =some d'[F+(2*r+1)]!:=z2e (by omega) (by omega)
  by_cases h2:2*r+2<hi
  ·have gb:d'.toList[((F:Int)+(2*(r:Int)+1)+1).toNat]? =some d'[F+(2*r+2)]!:=z2e (by omega) (by omega)
   have hc1:=z1c d'[F+(2*r+1)]! d'[F+(2*r+2)]!
   by_cases h4:d'[F+(2*r+1)]!<d'[F+(2*r+2)]!
   ·rw[zAi h4]at hc1
    have hc0:=z1c d'[F+r]! d'[F+(2*r+2)]!
    have g0:d'.toList[((F:Int)+(r:Int)).toNat]? =some d'[F+r]!:=z2e (by omega) (by omega)
    have gc:d'.toList[((F:Int)+(2*(r:Int)+1+1)).toNat]? =some d'[F+(2*r+2)]!:=z2e (by omega) (by omega)
    have s1:d'.toList.set ((F:Int)+(r:Int)).toNat d'[F+(2*r+2)]! =(d'.setIfInBounds (F+r) d'[F+(2*r+2)]!).toList:=z2p (by omega) _
    have g1:(d'.setIfInBounds (F+r) d'[F+(2*r+2)]!).toList[((F:Int)+(2*(r:Int)+1+1)).toNat]? =some (d'.setIfInBounds (F+r) d'[F+(2*r+2)]!)[F+(2*r+2)]!:=z2e (by omega) (by simp;omega)
    have s2:(d'.setIfInBounds (F+r) d'[F+(2*r+2)]!).toList.set ((F:Int)+(2*(r:Int)+1+1)).toNat d'[F+r]! =(Go.Sort.swp d' (F+r) (F+(2*r+2))).toList:=z2p (by omega) _
    have z1:(d'.setIfInBounds (F+r) d'[F+(2*r+2)]!).size=d'.size:=by simp
    by_cases h3:d'[F+r]!<d'[F+(2*r+2)]!
    ·rw[zAi h3]at hc0
     rw[ybf h1 h2 h4,zAz h3]at i2
     have ih':=ih ((2*r+2),Go.Sort.swp d' (F+r) (F+(2*r+2))) ⟨by rw[Go.Sort.swp_size];exact i1,by omega,i2⟩ (by simp only;omega)
     simp only at ih'
     clear ih i2
     generalize Go.Sort.swp d' (F+r) (F+(2*r+2))=d2 at *
     generalize (d'.setIfInBounds (F+r) d'[F+(2*r+2)]!)=d1 at *
     repeat' first|(apply z0b;first|refine z0c (z0e (u:=z1b d'[F+(2*r+1)]!) ga) rfl rfl ?_| refine z0c (z0e (u:=z1b d'[F+(2*r+2)]!) gb) rfl rfl ?_| refine z0c (z0e (u:=z1b d'[F+r]!) g0) rfl rfl ?_)|(apply z02;refine z0c (z1a rfl (by simp only[zA4,zAe];omega)) rfl rfl ?_)|(apply z0t;first|refine z07 (z7l z1e) rfl rfl ?_| refine z07 (z16 z1e) rfl rfl ?_)|(apply z19;refine z0c (z16 z1e) rfl rfl ?_)|(apply z0l;first|refine z3t hc1 ?_| refine z3t hc0 ?_)|(apply z10;first|refine z0j d'[F+(2*r+2)]! (by first|exact rfl|exact⟨_,rfl,rfl,rfl⟩) rfl rfl rfl rfl g0 rfl rfl rfl s1 ?_|refine z0j d'[F+r]! (by first|exact rfl|exact⟨_,rfl,rfl,rfl⟩) rfl rfl rfl rfl g1 rfl rfl rfl s2 ?_)|refine z04 ?_|refine fk (fun _=>?_) (fun _=>?_)|(refine z13 (fun hg=>?_) (fun hg=>?_)<;> simp only[hg] <;> (try simp only[zA3,zA5,zA6,zA8]at hg))
     all_goals try omega
     all_goals rw[show(2*(r:Int)+1+1)=(((2*r+2):Nat):Int) by omega]
     all_goals exact z00 ih' rfl rfl
    ·rw[zAo h3]at hc0
     rw[ybf h1 h2 h4,zAy h3]at i2
     exact zD18
   ·rw[zAo h4]at hc1
    have hc0:=z1c d'[F+r]! d'[F+(2*r+1)]!
    have g0:d'.toList[((F:Int)+(r:Int)).toNat]? =some d'[F+r]!:=z2e (by omega) (by omega)
    have gc:d'.toList[((F:Int)+(2*(r:Int)+1)).toNat]? =some d'[F+(2*r+1)]!:=z2e (by omega) (by omega)
    have s1:d'.toList.set ((F:Int)+(r:Int)).toNat d'[F+(2*r+1)]! =(d'.setIfInBounds (F+r) d'[F+(2*r+1)]!).toList:=z2p (by omega) _
    have g1:(d'.setIfInBounds (F+r) d'[F+(2*r+1)]!).toList[((F:Int)+(2*(r:Int)+1)).toNat]? =some (d'.setIfInBounds (F+r) d'[F+(2*r+1)]!)[F+(2*r+1)]!:=z2e (by omega) (by simp;omega)
    have s2:(d'.setIfInBounds (F+r) d'[F+(2*r+1)]!).toList.set ((F:Int)+(2*(r:Int)+1)).toNat d'[F+r]! =(Go.Sort.swp d' (F+r) (F+(2*r+1))).toList:=z2p (by omega) _
    have z1:(d'.setIfInBounds (F+r) d'[F+(2*r+1)]!).size=d'.size:=by simp
    by_cases h3:d'[F+r]!<d'[F+(2*r+1)]!
    ·rw[zAi h3]at hc0
     rw[y8z h1 fun g=>h4 g.2,zAz h3]at i2
     have ih':=ih ((2*r+1),Go.Sort.swp d' (F+r) (F+(2*r+1))) ⟨by rw[Go.Sort.swp_size];exact i1,by omega,i2⟩ (by simp only;omega)
     simp only at ih'
     clear ih i2
     generalize Go.Sort.swp d' (F+r) (F+(2*r+1))=d2 at *
     generalize (d'.setIfInBounds (F+r) d'[F+(2*r+1)]!)=d1 at *
     repeat' first|(apply z0b;first|refine z0c (z0e (u:=z1b d'[F+(2*r+1)]!) ga) rfl rfl ?_| refine z0c (z0e (u:=z1b d'[F+(2*r+2)]!) gb) rfl rfl ?_| refine z0c (z0e (u:=z1b d'[F+r]!) g0) rfl rfl ?_)|(apply z02;refine z0c (z1a rfl (by simp only[zA4,zAe];omega)) rfl rfl ?_)|(apply z0t;first|refine z07 (z7l z1e) rfl rfl ?_| refine z07 (z16 z1e) rfl rfl ?_)|(apply z19;refine z0c (z16 z1e) rfl rfl ?_)|(apply z0l;first|refine z3t hc1 ?_| refine z3t hc0 ?_)|(apply z10;first|refine z0j d'[F+(2*r+1)]! (by first|exact rfl|exact⟨_,rfl,rfl,rfl⟩) rfl rfl rfl rfl g0 rfl rfl rfl s1 ?_|refine z0j d'[F+r]! (by first|exact rfl|exact⟨_,rfl,rfl,rfl⟩) rfl rfl rfl rfl g1 rfl rfl rfl s2 ?_)|refine z04 ?_|refine fk (fun _=>?_) (fun _=>?_)|(refine z13 (fun hg=>?_) (fun hg=>?_)<;> simp only[hg] <;> (try simp only[zA3,zA5,zA6,zA8]at hg))
     all_goals exact zD116
    ·rw[zAo h3]at hc0
     rw[y8z h1 fun g=>h4 g.2,zAy h3]at i2
     exact zD18
  ·have hc1:=z1c 0 0
   have hc0:=z1c d'[F+r]! d'[F+(2*r+1)]!
   have g0:d'.toList[((F:Int)+(r:Int)).toNat]? =some d'[F+r]!:=z2e (by omega) (by omega)
   have gc:d'.toList[((F:Int)+(2*(r:Int)+1)).toNat]? =some d'[F+(2*r+1)]!:=z2e (by omega) (by omega)
   have s1:d'.toList.set ((F:Int)+(r:Int)).toNat d'[F+(2*r+1)]! =(d'.setIfInBounds (F+r) d'[F+(2*r+1)]!).toList:=z2p (by omega) _
   have g1:(d'.setIfInBounds (F+r) d'[F+(2*r+1)]!).toList[((F:Int)+(2*(r:Int)+1)).toNat]? =some (d'.setIfInBounds (F+r) d'[F+(2*r+1)]!)[F+(2*r+1)]!:=z2e (by omega) (by simp;omega)
   have s2:(d'.setIfInBounds (F+r) d'[F+(2*r+1)]!).toList.set ((F:Int)+(2*(r:Int)+1)).toNat d'[F+r]! =(Go.Sort.swp d' (F+r) (F+(2*r+1))).toList:=z2p (by omega) _
   have z1:(d'.setIfInBounds (F+r) d'[F+(2*r+1)]!).size=d'.size:=by simp
   by_cases h3:d'[F+r]!<d'[F+(2*r+1)]!
   ·rw[zAi h3]at hc0
    rw[y8z h1 fun g=>h2 g.1,zAz h3]at i2
    have ih':=ih ((2*r+1),Go.Sort.swp d' (F+r) (F+(2*r+1))) ⟨by rw[Go.Sort.swp_size];exact i1,by omega,i2⟩ (by simp only;omega)
    simp only at ih'
    clear ih i2
    generalize Go.Sort.swp d' (F+r) (F+(2*r+1))=d2 at *
    generalize (d'.setIfInBounds (F+r) d'[F+(2*r+1)]!)=d1 at *
    repeat' first|(apply z0b;first|refine z0c (z0e (u:=z1b d'[F+(2*r+1)]!) ga) rfl rfl ?_| refine z0c (z0e (u:=z1b d'[F+r]!) g0) rfl rfl ?_)|(apply z02;refine z0c (z1a rfl (by simp only[zA4,zAe];omega)) rfl rfl ?_)|(apply z0t;first|refine z07 (z7l z1e) rfl rfl ?_| refine z07 (z16 z1e) rfl rfl ?_)|(apply z19;refine z0c (z16 z1e) rfl rfl ?_)|(apply z0l;refine z3t hc0 ?_)|(apply z10;first|refine z0j d'[F+(2*r+1)]! (by first|exact rfl|exact⟨_,rfl,rfl,rfl⟩) rfl rfl rfl rfl g0 rfl rfl rfl s1 ?_|refine z0j d'[F+r]! (by first|exact rfl|exact⟨_,rfl,rfl,rfl⟩) rfl rfl rfl rfl g1 rfl rfl rfl s2 ?_)|refine z04 ?_|refine fk (fun _=>?_) (fun _=>?_)|(refine z13 (fun hg=>?_) (fun hg=>?_)<;> simp only[hg] <;> (try simp only[zA3,zA5,zA6,zA8]at hg))
    all_goals exact zD116
   ·rw[zAo h3]at hc0
    rw[y8z h1 fun g=>h2 g.1,zAy h3]at i2
    rw[←i2]
    clear ih i2
    repeat' first|(apply z0b;first|refine z0c (z0e (u:=z1b d'[F+(2*r+1)]!) ga) rfl rfl ?_| refine z0c (z0e (u:=z1b d'[F+r]!) g0) rfl rfl ?_)|(apply z02;refine z0c (z1a rfl (by simp only[zA4,zAe];omega)) rfl rfl ?_)|(apply z0t;first|refine z07 (z7l z1e) rfl rfl ?_| refine z07 (z16 z1e) rfl rfl ?_)|(apply z19;refine z0c (z16 z1e) rfl rfl ?_)|(apply z0l;refine z3t hc0 ?_)|refine z04 ?_|refine fk (fun _=>?_) (fun _=>?_)|(refine z13 (fun hg=>?_) (fun hg=>?_)<;> simp only[hg] <;> (try simp only[zA3,zA5,zA6,zA8]at hg))
    all_goals try omega
    all_goals refine z3a (raw:=rwA d') 1000 0 1000 ?_
    all_goals refine z03 func199 _ (z2o rfl) ⟨rfl,?_⟩
    all_goals simp[z6j,z1m]
theorem zj7(F hi lo:Nat)(d:Array Int):(Go.Sort.siftDown Go.Sort.ltInt hi F lo d).size=d.size:=by
 induction hn:hi-lo using Nat.strongRecOn generalizing lo d with
 | _ n ih =>
  by_cases h1:hi≤2*lo+1
  ·rw[Go.Sort.siftDown,dif_pos h1]
  ·by_cases h2:2*lo+2<hi∧d[F+(2*lo+1)]!<d[F+(2*lo+2)]!
   ·rw[ybf h1 h2.1 h2.2]
    split
    ·rw[ih _ (by omega) _ _ rfl,Go.Sort.swp_size]
    ·rfl
   ·rw[y8z h1 h2]
    split
    ·rw[ih _ (by omega) _ _ rfl,Go.Sort.swp_size]
    ·rfl
theorem y7g(a b:Nat)(d:Array Int)(hab:a<b)(hb:b≤d.size)(hs:d.size≤100000000) :
 z0u prog 170 [.ref (0,1000),I .i64 (a:Nat),I .i64 (b:Nat)] [((0,1000),rwA d)] [((0,1000),rwA (Go.Sort.heapSort Go.Sort.ltInt d a b))] (.tup []):=by
 refine z0v fun H hH=>?_
 have hH0:=hH ((0,1000),rwA d) (by simp)
 obtain⟨hi,rfl⟩:∃hi,b=a+hi:=⟨b-a,by omega⟩
 rw[Go.Sort.heapSort,show a+hi-a=hi by omega]
 obtain⟨R1,hR1⟩:∃R,Go.Sort.heapBuild Go.Sort.ltInt hi a ((hi-1) / 2+1) d=R:=⟨_,rfl⟩
 rw[hR1]
 obtain⟨R,hR⟩:∃R,Go.Sort.heapPop Go.Sort.ltInt a hi R1=R:=⟨_,rfl⟩
 rw[hR]
 refine z05 func170 (by kernel_rfl) rfl (by simp) ?_
 dsimp only[f170]
 refine z1k 1000 0 1000 hH0 rfl rfl ?_
 repeat' first|(apply z0t;first|refine z07 (z1i z1e) rfl rfl ?_| refine z07 (z8p (by omega) (by decide) z1e) rfl rfl ?_)|refine z04 ?_|fail
 all_goals try omega
 refine z0f ?_
 rw[show((a+hi:Nat):Int)-(a:Nat)=(hi:Nat) by omega,show(((hi:Nat):Int)-1) / 2=(((hi-1) / 2+1:Nat):Int)-1 by omega]
 refine z00 (z0s (fun q:Nat × Array Int=>⟨56,[(0,.ref (0,1000)),(6,I .i64 (a:Nat)),(7,I .i64 0),(8,I .i64 (hi:Nat)),(9,I .i64 ((q.1:Nat)-1)),(101000,.al (0,1000) (1,1000))],[(1000,rwA q.2)],upd H (0,1000) .gone⟩) (fun q=>q.2.size=d.size∧q.1≤hi∧Go.Sort.heapBuild Go.Sort.ltInt hi a q.1 q.2=R1) (fun q=>q.1) ?_ ((hi-1) / 2+1,d) ⟨rfl,by simp only;omega,hR1⟩) rfl rfl
 rintro⟨k,d'⟩ ⟨i1,i3,i2⟩ ih
 simp only at i1 i2 i3 ih⊢
 cases k with
 | succ k =>
  rw[Go.Sort.heapBuild]at i2
  have hsz:=zj7 a hi k d'
  have hsi:=y13 a hi k d' (by omega) (by omega) (by omega)
  have ih':=ih (k,Go.Sort.siftDown Go.Sort.ltInt hi a k d') ⟨by simp only;omega,by simp only;omega,i2⟩ (by simp only;omega)
  simp only at ih'
  generalize Go.Sort.siftDown Go.Sort.ltInt hi a k d'=d2 at *
  rw[show((k:Nat):Int)=((k+1:Nat):Int)-1 by omega]at hsi
  clear ih i2
  repeat' first|(apply z0t;refine z07 (z1i z1e) rfl rfl ?_)|(apply z06;refine z4u hsi ?_)|refine z04 ?_|refine fk (fun _=>?_) fun _=>?_
  all_goals exact zD140
 | zero =>
  rw[Go.Sort.heapBuild]at i2
  subst i2
  clear ih
  repeat' first|(apply z0t;refine z07 (z1i z1e) rfl rfl ?_)|refine z04 ?_|fail
  all_goals try omega
  refine z0f ?_
  refine z00 (z0s (fun q:Nat × Array Int=>⟨56,[(0,.ref (0,1000)),(6,I .i64 (a:Nat)),(7,I .i64 0),(8,I .i64 (hi:Nat)),(10,I .i64 ((q.1:Nat)-1)),(101000,.al (0,1000) (1,1000))],[(1000,rwA q.2)],upd H (0,1000) .gone⟩) (fun q=>q.2.size=d.size∧q.1≤hi∧Go.Sort.heapPop Go.Sort.ltInt a q.1 q.2=R) (fun q=>q.1) ?_ (hi,d') ⟨i1,zAj _,hR⟩) rfl rfl
  clear hR hR1 i1
  rintro⟨k,d'⟩ ⟨i1,i3,i2⟩ ih
  simp only at i1 i2 i3 ih⊢
  cases k with
  | succ k =>
   rw[Go.Sort.heapPop]at i2
   have hsw:=Go.Sort.swp_size d' a (a+k)
   have hsz:=zj7 a k 0 (Go.Sort.swp d' a (a+k))
   have hsi:=y13 a k 0 (Go.Sort.swp d' a (a+k)) (by omega) (by omega) (by omega)
   have ih':=ih (k,Go.Sort.siftDown Go.Sort.ltInt k a 0 (Go.Sort.swp d' a (a+k))) ⟨by simp only;omega,by simp only;omega,i2⟩ (by simp only;omega)
   simp only at ih'
   have g0:d'.toList[((a:Nat):Int).toNat]? =some d'[a]!:=z2e (by omega) (by omega)
   have gc:d'.toList[(((a:Nat):Int)+(((k+1:Nat):Int)-1)).toNat]? =some d'[a+k]!:=z2e (by omega) (by omega)
   have s1:d'.toList.set ((a:Nat):Int).toNat d'[a+k]! =(d'.setIfInBounds a d'[a+k]!).toList:=z2p (by omega) _
   have g1:(d'.setIfInBounds a d'[a+k]!).toList[(((a:Nat):Int)+(((k+1:Nat):Int)-1)).toNat]? =some (d'.setIfInBounds a d'[a+k]!)[a+k]!:=z2e (by omega) (by simp;omega)
   have s2:(d'.setIfInBounds a d'[a+k]!).toList.set (((a:Nat):Int)+(((k+1:Nat):Int)-1)).toNat d'[a]! =(Go.Sort.swp d' a (a+k)).toList:=z2p (by omega) _
   have z1:(d'.setIfInBounds a d'[a+k]!).size=d'.size:=by simp
   generalize Go.Sort.siftDown Go.Sort.ltInt k a 0 (Go.Sort.swp d' a (a+k))=d3 at *
   generalize Go.Sort.swp d' a (a+k)=d2 at *
   generalize (d'.setIfInBounds a d'[a+k]!)=d1 at *
   rw[show((k:Nat):Int)=((k+1:Nat):Int)-1 by omega]at hsi
   clear ih i2
   repeat' first|(apply z0b;first|refine z0c (z0e (u:=z1b d'[a]!) g0) rfl rfl ?_| refine z0c (z0e (u:=z1b d'[a+k]!) gc) rfl rfl ?_)|(apply z02;refine z0c (z1a rfl (by simp only[zA4,zAe];omega)) rfl rfl ?_)|(apply z0t;refine z07 (z1i z1e) rfl rfl ?_)|(apply z19;refine z0c (z16 z1e) rfl rfl ?_)|(apply z06;refine z4u hsi ?_)|(apply z10;first|refine z0j d'[a+k]! (by first|exact rfl|exact⟨_,rfl,rfl,rfl⟩) rfl rfl rfl rfl g0 rfl rfl rfl s1 ?_|refine z0j d'[a]! (by first|exact rfl|exact⟨_,rfl,rfl,rfl⟩) rfl rfl rfl rfl g1 rfl rfl rfl s2 ?_)|refine z04 ?_|refine fk (fun _=>?_) fun _=>?_
   all_goals exact zD140
  | zero =>
   rw[Go.Sort.heapPop]at i2
   subst i2
   clear ih
   repeat' first|refine z04 ?_|fail
   all_goals try omega
   refine z3a (raw:=rwA d') 1000 0 1000 ?_
   refine ze8 func170 _ (z2o rfl) ⟨rfl,?_⟩
   simp[z6j,z1m]
theorem zib{H:Hf}{A B:Blk}(h0:H 0 1000=some A):upd (upd (upd (upd H (0,1000) .gone) (0,900) .gone) (0,1000) A) (0,900) B=upd H (0,900) B:=by
 funext d s
 simp only[upd]
 by_cases a:d=0∧s=900
 ·rw[zAz a,zAz a]
 rw[zAy a,zAy a]
 by_cases b:d=0∧s=1000
 ·rw[zAz b,zAy a,b.1,b.2,h0]
 ·rw[zAy b,zAy a,zAy b]
abbrev bxI(s:Int):Blk:=.box [.d (z2i s)]
def o2(d:Array Int)(a b:Nat)(s:Int):Nat × Nat × Int:=if d[b]!<d[a]! then(b,a,s+1)else(a,b,s)
theorem zh4(d:Array Int)(a b:Nat)(s:Int)(ha:a<d.size)(hb:b<d.size)(hs:0≤s∧s≤1000000)(hz:d.size≤100000000) :
 z0u prog 212 [.ref (0,1000),I .i64 (a:Nat),I .i64 (b:Nat),.ptr (0,900) 0] [((0,1000),rwA d),((0,900),bxI s)] [((0,900),bxI (o2 d a b s).2.2)] (.tup [I .i64 ((o2 d a b s).1:Nat),I .i64 ((o2 d a b s).2.1:Nat)]):=by
 refine z0v fun H hH=>?_
 have hX:H 0 1000=some (rwA d):=hH ((0,1000),rwA d) (by simp)
 have hB:H 0 900=some (bxI s):=hH ((0,900),bxI s) (by simp)
 have ga:d.toList[((a:Nat):Int).toNat]? =some d[a]!:=z2e rfl ha
 have gb:d.toList[((b:Nat):Int).toNat]? =some d[b]!:=z2e rfl hb
 have hc:=z1c d[b]! d[a]!
 rw[o2]
 refine z05 func212 (by kernel_rfl) rfl (by simp) ?_
 dsimp only[f212]
 refine z1k 1000 0 1000 hX rfl rfl ?_
 refine z4d 900 0 900 (z08 hB (by simp)) rfl rfl ?_
 by_cases h:d[b]!<d[a]!
 ·rw[zAz h]
  rw[zAi h]at hc
  repeat' first|(apply z0b;first|refine z0c (z0e (u:=z1b d[a]!) ga) rfl rfl ?_| refine z0c (z0e (u:=z1b d[b]!) gb) rfl rfl ?_)|(apply z02;refine z0c (z1a rfl (by simp only[zA4,zAe];omega)) rfl rfl ?_)|(apply z0t;refine z07 (z16 z1e) rfl rfl ?_)|(apply z0l;refine z3t hc ?_)|refine z04 ?_|fail
  all_goals try omega
  all_goals refine z7h (raw:=rwA d) 1000 0 1000 (z08 (z1g _ (0,1000) _) (by simp)) ?_
  all_goals refine z7h (raw:=bxI (s+1)) 900 0 900 (z08 (z1g _ (0,900) _) (by simp)) ?_
  all_goals exact z03 func212 _ z1z ⟨rfl,zib hX⟩
 ·rw[zAy h]
  rw[zAo h]at hc
  repeat' first|(apply z0b;first|refine z0c (z0e (u:=z1b d[a]!) ga) rfl rfl ?_| refine z0c (z0e (u:=z1b d[b]!) gb) rfl rfl ?_)|(apply z02;refine z0c (z1a rfl (by simp only[zA4,zAe];omega)) rfl rfl ?_)|(apply z0l;refine z3t hc ?_)|refine z04 ?_|fail
  all_goals try omega
  all_goals refine z7h (raw:=rwA d) 1000 0 1000 (z08 (z1g _ (0,1000) _) (by simp)) ?_
  all_goals refine z7h (raw:=bxI s) 900 0 900 (z08 (z1g _ (0,900) _) (by simp)) ?_
  all_goals exact z03 func212 _ z1z ⟨rfl,zib hX⟩
theorem y3t{d:Array Int}{a b:Nat}{s:Int}{l n:Nat}(ha:l≤a∧a<n)(hb:l≤b∧b<n)(hs:0≤s):(l≤(o2 d a b s).1∧(o2 d a b s).1<n)∧(l≤(o2 d a b s).2.1∧(o2 d a b s).2.1<n)∧s≤(o2 d a b s).2.2∧(o2 d a b s).2.2≤s+1:=by
 rw[o2]
 split
 ·exact⟨hb,ha,by simp only;omega,by simp only;omega⟩
 ·exact⟨ha,hb,by simp only;omega,by simp only;omega⟩
theorem zgd(d:Array Int)(a b c l n:Nat)(s:Int)(ha:l≤a∧a<n)(hb:l≤b∧b<n)(hc:l≤c∧c<n)(hn:n≤d.size)(hs:0≤s∧s≤100000)(hz:d.size≤100000000) :
 ∃(m:Nat) (s':Int),(l≤m∧m<n)∧s≤s'∧s'≤s+3∧z0u prog 201 [.ref (0,1000),I .i64 (a:Nat),I .i64 (b:Nat),I .i64 (c:Nat),.ptr (0,900) 0] [((0,1000),rwA d),((0,900),bxI s)] [((0,900),bxI s')] (I .i64 (m:Nat)):=by
 obtain⟨p1,p2,p3,p4⟩:=y3t (d:=d) ha hb hs.1
 have e1:=zh4 d a b s (by omega) (by omega) (by omega) hz
 generalize o2 d a b s=r1 at *
 obtain⟨a1,b1,s1⟩:=r1
 simp only at p1 p2 p3 p4 e1
 obtain⟨q1,q2,q3,q4⟩:=y3t (d:=d) p2 hc (show 0≤s1 by omega)
 have e2:=zh4 d b1 c s1 (by omega) (by omega) (by omega) hz
 generalize o2 d b1 c s1=r2 at *
 obtain⟨b2,c2,s2⟩:=r2
 simp only at q1 q2 q3 q4 e2
 obtain⟨u1,u2,u3,u4⟩:=y3t (d:=d) p1 q1 (show 0≤s2 by omega)
 have e3:=zh4 d a1 b2 s2 (by omega) (by omega) (by omega) hz
 generalize o2 d a1 b2 s2=r3 at *
 obtain⟨a3,b3,s3⟩:=r3
 simp only at u1 u2 u3 u4 e3
 refine⟨b3,s3,u2,by omega,by omega,z0v fun H hH=>?_⟩
 have hX:H 0 1000=some (rwA d):=hH ((0,1000),rwA d) (by simp)
 have hB:H 0 900=some (bxI s):=hH ((0,900),bxI s) (by simp)
 refine z05 func201 (by kernel_rfl) rfl (by simp) ?_
 dsimp only[f201]
 refine z1k 1000 0 1000 hX rfl rfl ?_
 refine z4d 900 0 900 (z08 hB (by simp)) rfl rfl ?_
 repeat' first|(apply z06;first|refine z2q e3 rfl rfl rfl (by decide) ?_|refine z2q e2 rfl rfl rfl (by decide) ?_|refine z2q e1 rfl rfl rfl (by decide) ?_)|refine z04 ?_|fail
 all_goals try omega
 all_goals refine z7h (raw:=rwA d) 1000 0 1000 (z08 (z1g _ (0,1000) _) (by simp)) ?_
 all_goals refine z7h (raw:=bxI s3) 900 0 900 (z08 (z1g _ (0,900) _) (by simp)) ?_
 all_goals exact z03 func201 _ z1h ⟨rfl,zib hX⟩
theorem zet(d:Array Int)(a l n:Nat)(s:Int)(ha:l<a∧a+1<n)(hn:n≤d.size)(hs:0≤s∧s≤100000)(hz:d.size≤100000000) :
 ∃(m:Nat) (s':Int),(l≤m∧m<n)∧s≤s'∧s'≤s+3∧z0u prog 200 [.ref (0,1000),I .i64 (a:Nat),.ptr (0,900) 0] [((0,1000),rwA d),((0,900),bxI s)] [((0,900),bxI s')] (I .i64 (m:Nat)):=by
 obtain⟨m,s',h1,h2,h3,e⟩:=zgd d (a-1) a (a+1) l n s (by omega) (by omega) (by omega) hn hs hz
 rw[show((a-1:Nat):Int)=(a:Nat)-1 by omega,show((a+1:Nat):Int)=(a:Nat)+1 by omega]at e
 refine⟨m,s',h1,h2,h3,z0v fun H hH=>?_⟩
 have hX:H 0 1000=some (rwA d):=hH ((0,1000),rwA d) (by simp)
 have hB:H 0 900=some (bxI s):=hH ((0,900),bxI s) (by simp)
 refine z05 func200 (by kernel_rfl) rfl (by simp) ?_
 dsimp only[f200]
 refine z1k 1000 0 1000 hX rfl rfl ?_
 refine z4d 900 0 900 (z08 hB (by simp)) rfl rfl ?_
 repeat' first|(apply z0t;first|refine z07 (z16 z1e) rfl rfl ?_| refine z07 (z1i z1e) rfl rfl ?_)|(apply z06;refine z2q e rfl rfl rfl (by decide) ?_)|refine z04 ?_|fail
 all_goals try omega
 all_goals refine z7h (raw:=rwA d) 1000 0 1000 (z08 (z1g _ (0,1000) _) (by simp)) ?_
 all_goals refine z7h (raw:=bxI s') 900 0 900 (z08 (z1g _ (0,900) _) (by simp)) ?_
 all_goals exact z03 func200 _ z1h ⟨rfl,zib hX⟩
theorem zjg{H:Hf}{A:Blk}(h0:H 0 1000=some A):upd (upd H (0,1000) .gone) (0,1000) A=H:=by
 funext d s
 simp only[upd]
 by_cases a:d=0∧s=1000
 ·rw[zAz a,a.1,a.2,h0]
 ·rw[zAy a,zAy a]
theorem zzy(d:Array Int)(a b:Nat)(hab:a+13≤b)(hb:b≤d.size)(hz:d.size≤100000000) :
 ∃(p:Nat) (h:Int),(a≤p∧p<b)∧z0u prog 172 [.ref (0,1000),I .i64 (a:Nat),I .i64 (b:Nat)] [((0,1000),rwA d)] [] (.tup [I .i64 (p:Nat),I .i64 h]):=by
 have i1:((a+(b-a) / 4*1:Nat):Int)=(a:Nat)+((b:Nat)-(a:Nat)) / 4*1:=by omega
 have i2:((a+(b-a) / 4*2:Nat):Int)=(a:Nat)+((b:Nat)-(a:Nat)) / 4*2:=by omega
 have i3:((a+(b-a) / 4*3:Nat):Int)=(a:Nat)+((b:Nat)-(a:Nat)) / 4*3:=by omega
 by_cases h50:b-a<50
 ·obtain⟨m,s,h1,h2,h3,e⟩:=zgd d (a+(b-a) / 4*1) (a+(b-a) / 4*2) (a+(b-a) / 4*3) a b 0 (by omega) (by omega) (by omega) hb (by omega) hz
  rw[i1,i2,i3]at e
  by_cases c0:s=0
  ·refine⟨m,1,h1,z0v fun H hH=>?_⟩
   exact zD20
  ·by_cases c1:s=12
   ·omega
   ·refine⟨m,0,h1,z0v fun H hH=>?_⟩
    exact zD20
 ·obtain⟨n1,s1,u1,u2,u3,e1⟩:=zet d (a+(b-a) / 4*1) a b 0 (by omega) hb (by omega) hz
  obtain⟨n2,s2,v1,v2,v3,e2⟩:=zet d (a+(b-a) / 4*2) a b s1 (by omega) hb (by omega) hz
  obtain⟨n3,s3,w1,w2,w3,e3⟩:=zet d (a+(b-a) / 4*3) a b s2 (by omega) hb (by omega) hz
  obtain⟨m,s,h1,h2,h3,e⟩:=zgd d n1 n2 n3 a b s3 (by omega) (by omega) (by omega) hb (by omega) hz
  rw[i1]at e1
  rw[i2]at e2
  rw[i3]at e3
  have hp:∃h:Int,(s=0∧h=1)∨(s≠0∧s=12∧h=2)∨(s≠0∧s≠12∧h=0):=by
   by_cases c0:s=0
   ·exact⟨1,.inl ⟨c0,rfl⟩⟩
   ·by_cases c1:s=12
    ·exact⟨2,.inr (.inl ⟨c0,c1,rfl⟩)⟩
    ·exact⟨0,.inr (.inr ⟨c0,c1,rfl⟩)⟩
  obtain⟨h,hh⟩:=hp
  refine⟨m,h,h1,z0v fun H hH=>?_⟩
  have hX:H 0 1000=some (rwA d):=hH ((0,1000),rwA d) (by simp)
  refine z05 func172 (by kernel_rfl) rfl (by simp) ?_
  dsimp only[f172]
  refine z1k 1000 0 1000 hX rfl rfl ?_
  rcases hh with⟨c0,rfl⟩|⟨c0,c1,rfl⟩|⟨c0,c1,rfl⟩
  ·exact zD10
  ·exact zD10
  ·exact zD10
theorem zui(d:Array Int)(a b:Nat)(hab:a<b)(hb:b≤d.size)(hz:d.size≤100000000) :
 z0u prog 173 [.ref (0,1000),I .i64 (a:Nat),I .i64 (b:Nat)] [((0,1000),rwA d)] [((0,1000),rwA (Go.Sort.reverseRange d a b))] (.tup []):=by
 refine z0v fun H hH=>?_
 have hX:H 0 1000=some (rwA d):=hH ((0,1000),rwA d) (by simp)
 obtain⟨R,hR⟩:∃R,Go.Sort.reverseLoop a (b-1) d=R:=⟨_,rfl⟩
 rw[Go.Sort.reverseRange,hR]
 refine z05 func173 (by kernel_rfl) rfl (by simp) ?_
 dsimp only[f173]
 refine z1k 1000 0 1000 hX rfl rfl ?_
 repeat' first|(apply z0t;refine z07 (z1i z1e) rfl rfl ?_)|refine z04 ?_|fail
 all_goals try omega
 refine z0f ?_
 rw[show((b:Nat):Int)-1=(b-1:Nat) by omega]
 refine z00 (z0s (fun q:Nat × Nat × Array Int=>⟨32,[(0,.ref (0,1000)),(6,I .i64 (q.1:Nat)),(7,I .i64 (q.2.1:Nat)),(101000,.al (0,1000) (1,1000))],[(1000,rwA q.2.2)],upd H (0,1000) .gone⟩) (fun q=>q.2.2.size=d.size∧q.1<b∧q.2.1<b∧Go.Sort.reverseLoop q.1 q.2.1 q.2.2=R) (fun q=>q.2.1-q.1) ?_ (a,b-1,d) ⟨rfl,hab,by simp only;omega,hR⟩) rfl rfl
 rintro⟨i,j,d'⟩ ⟨i1,i2,i3,i4⟩ ih
 simp only at i1 i2 i3 i4 ih⊢
 rw[Go.Sort.reverseLoop]at i4
 by_cases h:i<j
 ·rw[zAz h]at i4
  have ih':=ih (i+1,j-1,Go.Sort.swp d' i j) ⟨by rw[Go.Sort.swp_size];exact i1,by simp only;omega,by simp only;omega,i4⟩ (by simp only;omega)
  simp only at ih'
  have g0:d'.toList[((i:Nat):Int).toNat]? =some d'[i]!:=z2e (by omega) (by omega)
  have gc:d'.toList[((j:Nat):Int).toNat]? =some d'[j]!:=z2e (by omega) (by omega)
  have s1:d'.toList.set ((i:Nat):Int).toNat d'[j]! =(d'.setIfInBounds i d'[j]!).toList:=z2p (by omega) _
  have g1:(d'.setIfInBounds i d'[j]!).toList[((j:Nat):Int).toNat]? =some (d'.setIfInBounds i d'[j]!)[j]!:=z2e (by omega) (by simp;omega)
  have s2:(d'.setIfInBounds i d'[j]!).toList.set ((j:Nat):Int).toNat d'[i]! =(Go.Sort.swp d' i j).toList:=z2p (by omega) _
  have z1:(d'.setIfInBounds i d'[j]!).size=d'.size:=by simp
  generalize Go.Sort.swp d' i j=d2 at *
  generalize (d'.setIfInBounds i d'[j]!)=d1 at *
  clear ih i4
  repeat' first|(apply z0b;first|refine z0c (z0e (u:=z1b d'[i]!) g0) rfl rfl ?_| refine z0c (z0e (u:=z1b d'[j]!) gc) rfl rfl ?_)|(apply z02;refine z0c (z1a rfl (by simp only[zA4,zAe];omega)) rfl rfl ?_)|(apply z0t;first|refine z07 (z1i z1e) rfl rfl ?_| refine z07 (z16 z1e) rfl rfl ?_)|(apply z10;first|refine z0j d'[j]! (by first|exact rfl|exact⟨_,rfl,rfl,rfl⟩) rfl rfl rfl rfl g0 rfl rfl rfl s1 ?_|refine z0j d'[i]! (by first|exact rfl|exact⟨_,rfl,rfl,rfl⟩) rfl rfl rfl rfl g1 rfl rfl rfl s2 ?_)|refine z04 ?_|refine fk (fun _=>?_) fun _=>?_
  all_goals try omega
  all_goals rw[show((j:Nat):Int)-1=(j-1:Nat) by omega]
  all_goals exact z00 ih' rfl rfl
 ·rw[zAy h]at i4
  rw[←i4]
  clear ih i4
  repeat' first|refine z04 ?_|refine fk (fun _=>?_) fun _=>?_
  all_goals try omega
  refine z3a (raw:=rwA d') 1000 0 1000 ?_
  refine ze8 func173 _ (z2o rfl) ⟨rfl,?_⟩
  simp[z6j,z1m]
section
variable{p:Int→Bool}{d:Array Int}{i j:Nat}
theorem y5x(h:i≤j)(hp:p d[i]! =true):Go.Sort.scanUp p d j i=Go.Sort.scanUp p d j (i+1):=by rw[Go.Sort.scanUp,zAz (by rw[zAi h,hp];rfl)]
theorem zmf(h:¬(i≤j∧p d[i]! =true)):Go.Sort.scanUp p d j i=i:=by rw[Go.Sort.scanUp,zAy (by simpa using h)]
theorem zpz(h0:1≤j)(h:i≤j)(hp:p d[j]! =true):Go.Sort.scanDown p d i j=Go.Sort.scanDown p d i (j-1):=by
 obtain⟨k,rfl⟩:∃k,j=k+1:=⟨j-1,by omega⟩
 rw[Go.Sort.scanDown,zAz (by rw[zAi h,hp];rfl)];rfl
theorem zbo(h:¬(i≤j∧p d[j]! =true)):Go.Sort.scanDown p d i j=j:=by
 cases j with
 | zero=>rw[Go.Sort.scanDown]
 | succ k=>rw[Go.Sort.scanDown,zAy (by simpa using h)]
end
abbrev pL(d:Array Int)(a:Nat):Int→Bool:=fun x=>Go.Sort.ltInt x d[a]!
abbrev pR(d:Array Int)(a:Nat):Int→Bool:=fun x=>!Go.Sort.ltInt x d[a]!
abbrev eL(d:Array Int)(a:Nat):Int→Bool:=fun x=>!Go.Sort.ltInt d[a]! x
abbrev eR(d:Array Int)(a:Nat):Int→Bool:=fun x=>Go.Sort.ltInt d[a]! x
theorem yc8(a i j:Nat)(d:Array Int):Go.Sort.partLoop Go.Sort.ltInt a i j d=if Go.Sort.scanDown (pR d a) d (Go.Sort.scanUp (pL d a) d j i) j<Go.Sort.scanUp (pL d a) d j i then(Go.Sort.scanDown (pR d a) d (Go.Sort.scanUp (pL d a) d j i) j,d)
 else Go.Sort.partLoop Go.Sort.ltInt a (Go.Sort.scanUp (pL d a) d j i+1) (Go.Sort.scanDown (pR d a) d (Go.Sort.scanUp (pL d a) d j i) j-1) (Go.Sort.swp d (Go.Sort.scanUp (pL d a) d j i) (Go.Sort.scanDown (pR d a) d (Go.Sort.scanUp (pL d a) d j i) j)):=by
 exact Go.Sort.partLoop_eq Go.Sort.ltInt a i j d
theorem ycm(a i j:Nat)(d:Array Int):Go.Sort.partEqLoop Go.Sort.ltInt a i j d=if Go.Sort.scanDown (eR d a) d (Go.Sort.scanUp (eL d a) d j i) j<Go.Sort.scanUp (eL d a) d j i then(Go.Sort.scanUp (eL d a) d j i,d)
 else Go.Sort.partEqLoop Go.Sort.ltInt a (Go.Sort.scanUp (eL d a) d j i+1) (Go.Sort.scanDown (eR d a) d (Go.Sort.scanUp (eL d a) d j i) j-1) (Go.Sort.swp d (Go.Sort.scanUp (eL d a) d j i) (Go.Sort.scanDown (eR d a) d (Go.Sort.scanUp (eL d a) d j i) j)):=by
 exact Go.Sort.partEqLoop_eq Go.Sort.ltInt a i j d
theorem zye(d:Array Int)(a b pv:Nat)(h1:a≤pv)(h2:pv<b)(hb:b≤d.size)(hz:d.size≤100000000) :
 z0u prog 176 [.ref (0,1000),I .i64 (a:Nat),I .i64 (b:Nat),I .i64 (pv:Nat)] [((0,1000),rwA d)] [((0,1000),rwA (Go.Sort.partitionEqual Go.Sort.ltInt d a b pv).2)] (I .i64 ((Go.Sort.partitionEqual Go.Sort.ltInt d a b pv).1:Nat)):=by
 refine z0v fun H hH=>?_
 have hX:H 0 1000=some (rwA d):=hH ((0,1000),rwA d) (by simp)
 rw[Go.Sort.partitionEqual]
 have g0:d.toList[((a:Nat):Int).toNat]? =some d[a]!:=z2e (by omega) (by omega)
 have gc:d.toList[((pv:Nat):Int).toNat]? =some d[pv]!:=z2e (by omega) (by omega)
 have s1:d.toList.set ((a:Nat):Int).toNat d[pv]! =(d.setIfInBounds a d[pv]!).toList:=z2p (by omega) _
 have g1:(d.setIfInBounds a d[pv]!).toList[((pv:Nat):Int).toNat]? =some (d.setIfInBounds a d[pv]!)[pv]!:=z2e (by omega) (by simp;omega)
 have s2:(d.setIfInBounds a d[pv]!).toList.set ((pv:Nat):Int).toNat d[a]! =(Go.Sort.swp d a pv).toList:=z2p (by omega) _
 have z1:(d.setIfInBounds a d[pv]!).size=d.size:=by simp
 have z2:(Go.Sort.swp d a pv).size=d.size:=Go.Sort.swp_size _ _ _
 generalize Go.Sort.swp d a pv=d1 at *
 generalize (d.setIfInBounds a d[pv]!)=d0 at *
 obtain⟨R,hR⟩:∃R,Go.Sort.partEqLoop Go.Sort.ltInt a (a+1) (b-1) d1=R:=⟨_,rfl⟩
 rw[hR]
 refine z05 func176 (by kernel_rfl) rfl (by simp) ?_
 dsimp only[f176]
 refine z1k 1000 0 1000 hX rfl rfl ?_
 repeat' first|(apply z0b;first|refine z0c (z0e (u:=z1b d[a]!) g0) rfl rfl ?_| refine z0c (z0e (u:=z1b d[pv]!) gc) rfl rfl ?_)|(apply z02;refine z0c (z1a rfl (by simp only[zA4,zAe];omega)) rfl rfl ?_)|(apply z0t;first|refine z07 (z1i z1e) rfl rfl ?_| refine z07 (z16 z1e) rfl rfl ?_)|(apply z10;first|refine z0j d[pv]! (by first|exact rfl|exact⟨_,rfl,rfl,rfl⟩) rfl rfl rfl rfl g0 rfl rfl rfl s1 ?_|refine z0j d[a]! (by first|exact rfl|exact⟨_,rfl,rfl,rfl⟩) rfl rfl rfl rfl g1 rfl rfl rfl s2 ?_)|refine z04 ?_|fail
 all_goals try omega
 rw[show((b:Nat):Int)-1=(b-1:Nat) by omega,show((a:Nat):Int)+1=(a+1:Nat) by omega]
 refine z0f ?_
 refine z00 (z0s (fun q:Nat × Nat × Array Int=>⟨84,[(0,.ref (0,1000)),(1,I .i64 (a:Nat)),(9,I .i64 (q.1:Nat)),(10,I .i64 (q.2.1:Nat)),(101000,.al (0,1000) (1,1000))],[(1000,rwA q.2.2)],upd H (0,1000) .gone⟩) (fun q=>q.2.2.size=d.size∧a<q.1∧q.1≤b+1∧a≤q.2.1∧q.2.1<b∧Go.Sort.partEqLoop Go.Sort.ltInt a q.1 q.2.1 q.2.2=R) (fun q=>q.2.1+1-q.1) ?_ (a+1,b-1,d1) ⟨by simp only;omega,by simp only;omega,by simp only;omega,by simp only;omega,by simp only;omega,hR⟩) rfl rfl
 clear hR g0 gc s1 g1 s2 z1 z2
 rintro⟨i,j,d'⟩ ⟨i1,i2,i3,i4,i5,i6⟩ ih
 simp only at i1 i2 i3 i4 i5 i6 ih⊢
 rw[ycm]at i6
 obtain⟨ir,hir⟩:∃ir,Go.Sort.scanUp (eL d' a) d' j i=ir:=⟨_,rfl⟩
 rw[hir]at i6
 have ga:d'.toList[((a:Nat):Int).toNat]? =some d'[a]!:=z2e (by omega) (by omega)
 repeat' first|refine z04 ?_|fail
 refine z0f ?_
 refine z00 (z0s (fun q:Nat=>⟨84,[(0,.ref (0,1000)),(1,I .i64 (a:Nat)),(9,I .i64 (q:Nat)),(10,I .i64 (j:Nat)),(101000,.al (0,1000) (1,1000))],[(1000,rwA d')],upd H (0,1000) .gone⟩) (fun q=>i≤q∧q≤b+1∧Go.Sort.scanUp (eL d' a) d' j q=ir) (fun q=>j+1-q) ?_ i ⟨zAj _,i3,hir⟩) rfl rfl
 clear hir
 rintro q ⟨q1,q3,q2⟩ ihq
 by_cases hq:q≤j∧¬d'[a]!<d'[q]!
 ·have gq:d'.toList[((q:Nat):Int).toNat]? =some d'[q]!:=z2e (by omega) (by omega)
  have hc:=z1c d'[a]! d'[q]!
  rw[zAo hq.2]at hc
  rw[y5x hq.1 (by simp[Go.Sort.ltInt,hq.2])]at q2
  have ih':=ihq (q+1) ⟨by omega,by omega,q2⟩ (by omega)
  obtain⟨hq1,hq2⟩:=hq
  clear ih ihq
  all_goals exact zD17
 clear ihq
 rw[zmf fun g=>hq ⟨g.1,by have:=g.2;simpa[Go.Sort.ltInt]using this⟩]at q2
 subst q2
 have hex:q≤j→d'[a]!<d'[q]!:=fun g=>Decidable.byContradiction fun h=>hq ⟨g,h⟩
 obtain⟨jr,hjr⟩:∃jr,Go.Sort.scanDown (eR d' a) d' q j=jr:=⟨_,rfl⟩
 rw[hjr]at i6
 have gq:q<d'.size→d'.toList[((q:Nat):Int).toNat]? =some d'[q]!:=fun g=>z2e (by omega) g
 by_cases hqj:q≤j
 ·have gq:=gq (by omega)
  have hc:=z1c d'[a]! d'[q]!
  rw[zAi (hex hqj)]at hc
  repeat' first|(apply z0b;first|refine z0c (z0e (u:=z1b d'[q]!) gq) rfl rfl ?_| refine z0c (z0e (u:=z1b d'[a]!) ga) rfl rfl ?_)|(apply z02;refine z0c (z1a rfl (by simp only[zA4,zAe];omega)) rfl rfl ?_)|(apply z0l;refine z3t hc ?_)|refine z04 ?_|(refine z13 (fun hg=>?_) (fun hg=>?_)<;> simp only[hg] <;> (try simp only[zA3,zA5,zA6,zA8]at hg))
  all_goals try omega
  exact zD4
 ·have gq:True:=trivial
  have hc:=z1c 0 0
  repeat' first|refine z04 ?_|(refine z13 (fun hg=>?_) (fun hg=>?_)<;> simp only[hg] <;> (try simp only[zA3,zA5,zA6,zA8]at hg))
  all_goals try omega
  exact zD4
end Go.Proofs.YtmcggompdmngmaaGreatDoor
