/- A part of the proof: G7 to G11. -/
import Derived.Test.YtmcggompdmngmaaGreatDoorWc
import Derived.Test.YtmcggompdmngmaaGreatDoorWs
import Derived.Shelf.SlSortCmp.NoneTotal
import Derived.Test.YtmcggompdmngmaaGreatDoorProg
set_option linter.all false
namespace Go.Proofs.YtmcggompdmngmaaGreatDoor
open Go.Ab Go.Rx
set_option maxHeartbeats 20000000
set_option maxRecDepth 100000
attribute [local irreducible] Run Ops Op1 z14 Val Tr z0d z0w NF Rel z1z z27
abbrev eRg (c:Int):D:=.lit (.int .i32 c)
abbrev eN (c:Int):D:=.lit (.int .i64 c)
section
variable {X:Nat} (hX0:X≠700) (hX1:X≠701) (τ:Tab) (s:ByteArray) (hs:s.size≤1000000)
include hX0 hX1 hs
theorem zzu {sp:List Int} (hsp:Sp sp) (i:Nat) (hi:i≤s.size) (h0:0≤nx (rst s i)) (hok:nx (rst s i)=92∨sp.contains (nx (rst s i))=false) (e0:Nat) :
 z0w Tryz.prog 210 [.ptr (e0,X) 0,S (spB sp)] (((e0,X),pbx s i 0 0)::zhr τ (e0+1)) [((e0,X),zov s (z92 sp (rst s i)))] (z96 eRg (eRg 0) (z92 sp (rst s i))):=by
 refine z10 fun H hH=>?_
 have hX:H e0 X=some (pbx s i 0 0):=hH ((e0,X),pbx s i 0 0) (by simp)
 have hT:HT τ (e0+1) H:=HT.of (bs:=[((e0,X),pbx s i 0 0)]) hH
 refine z08 Tryz.func210 (by kernel_rfl) rfl (by simp) ?_
 dsimp only[Tryz.f210]
 have hlt:=y2n hi h0
 have hn:=z42 (X:=X) τ s i hi 0 0 (e0+1)
 by_cases hc:nx (rst s i)=92
 · obtain⟨_,ht,he⟩:=z2e hi hc (by decide) (by decide)
   have hn1:=z42 (X:=X) τ s (i+1) hlt 0 0 (e0+1)
   have hf:=z5p (X:=X) s (I .i64 ((i+1:Nat):Int)) ((i+1:Nat):Int) 3 (e0+1) (by decide)
   rw[he,z3s,zAz rfl]
   by_cases hl1:i+1<s.size
   · have hr:=zmm s (i+1)
     have hcr:=z5w hsp (nx (rst s (i+1))) hr.1 hr.2
     have e1:=z3c hl1
     have hx1:=zbl hl1
     have hsk:=zyw (X:=X) τ s (i+1) hl1 hs 0 0 (e0+1)
     have hw:=z6i s (i+1) hl1
     generalize hq:nx (rst s (i+1))=q at *
     rw[e1]
     simp only
     rw[← hx1]
     cases hcc:sp.contains q with
     | true =>
      rw[hcc] at hcr
      rw[zAz rfl,z3u (by omega)]
      repeat' (first|(apply z0i;(first|refine z2r (z02 _ (e0,X) _) ?_| refine z2r hX ?_))|(apply z03;(first|refine z1v hsk (z02 _ (e0,X) _) (bkT (by repeat (first|exact hT|refine HT.upd ?_ hX0 hX1))) ?_| refine z2x hf rfl (z02 _ (e0,X) _) (by decide) ?_|refine z0s hn1 (z07 (m:=(e0+1,X)) (z02 _ (e0,X) _) (bkT (by repeat (first|exact hT|refine HT.upd ?_ hX0 hX1)))) ?_| refine z0s hn (z07 (m:=(e0+1,X)) hX (bkT (by repeat (first|exact hT|refine HT.upd ?_ hX0 hX1)))) ?_| refine z1i hcr ?_))|(apply z0o;(refine z1r (raw':=pbx s ((i+1:Nat):Int) 0 0) hX ?_))|refine z05 ?_|refine fk (fun _=>?_) (fun _=>?_))
      all_goals exact zD83
     | false =>
      rw[hcc] at hcr
      rw[zAy (by simp),hx1,← e1,z5j (by omega)]
      repeat' (first|(apply z0i;(first|refine z2r (z02 _ (e0,X) _) ?_| refine z2r hX ?_))|(apply z03;(first|refine z2x hf rfl (z02 _ (e0,X) _) (by decide) ?_|refine z0s hn1 (z07 (m:=(e0+1,X)) (z02 _ (e0,X) _) (bkT (by repeat (first|exact hT|refine HT.upd ?_ hX0 hX1)))) ?_| refine z0s hn (z07 (m:=(e0+1,X)) hX (bkT (by repeat (first|exact hT|refine HT.upd ?_ hX0 hX1)))) ?_| refine z1i hcr ?_))|(apply z0o;(refine z1r (raw':=pbx s ((i+1:Nat):Int) 0 0) hX ?_))|refine z05 ?_|refine fk (fun _=>?_) (fun _=>?_))
      all_goals exact zD76
   · have e1:=z29 (s:=s) (i:=i+1) (by omega)
     have hx1:nx (rst s (i+1))=-1:=by rw[e1];rfl
     rw[e1]
     simp only
     rw[← e1,z5j (by omega)]
     rw[hx1] at hn1
     repeat' (first|(apply z0i;(first|refine z2r (z02 _ (e0,X) _) ?_| refine z2r hX ?_))|(apply z03;(first|refine z2x hf rfl (z02 _ (e0,X) _) (by decide) ?_|refine z0s hn1 (z07 (m:=(e0+1,X)) (z02 _ (e0,X) _) (bkT (by repeat (first|exact hT|refine HT.upd ?_ hX0 hX1)))) ?_| refine z0s hn (z07 (m:=(e0+1,X)) hX (bkT (by repeat (first|exact hT|refine HT.upd ?_ hX0 hX1)))) ?_))|(apply z0o;(refine z1r (raw':=pbx s ((i+1:Nat):Int) 0 0) hX ?_))|refine z05 ?_|refine fk (fun _=>?_) (fun _=>?_))
     all_goals exact zD76
 · have hok':=hok.resolve_left hc
   have e0':=z3c hlt
   have hx:=zbl hlt
   have hw:=z6i s i hlt
   have hsk:=zyw (X:=X) τ s i hlt hs 0 0 (e0+1)
   generalize hq:nx (rst s i)=q at *
   rw[e0',z3s]
   simp only
   rw[← hx,zAy hc,zAy (by rw[hok'];decide),z3u (by omega)]
   repeat' (first|(apply z0i;(refine z2r hX ?_))|(apply z03;(first|refine z1v hsk hX (bkT (by repeat (first|exact hT|refine HT.upd ?_ hX0 hX1))) ?_| refine z0s hn (z07 (m:=(e0+1,X)) hX (bkT (by repeat (first|exact hT|refine HT.upd ?_ hX0 hX1)))) ?_))|refine z05 ?_|refine fk (fun _=>?_) (fun _=>?_))
   all_goals exact zD83
end
theorem y7f {c:Int} (h:dgt c=true):48≤c∧c≤57:=by simpa[dgt] using h
theorem zc3 {k c:Int} {n:Nat} {l:List U}:ze5 k (⟨c,n⟩::l)=if dgt c=false then .err (⟨c,n⟩::l) 3
 else if 0<c-48∧l=[] then .err [] 3
 else if 0<c-48∧dgt (nx l)=true then
  (if 16<10*(c-48)+(nx l-48)∨10*(c-48)+(nx l-48)<k then .err (⟨c,n⟩::l) 8 else .ok (10*(c-48)+(nx l-48)) l.tail)
 else if 16<c-48∨c-48<k then .err (⟨c,n⟩::l) 8 else .ok (c-48) l:=rfl
section
variable {X:Nat} (hX0:X≠700) (hX1:X≠701) (τ:Tab) (s:ByteArray) (hs:s.size≤1000000)
include hX0 hX1 hs
theorem zc5 (i:Nat) (hi:i≤s.size) (e0:Nat) :
 z0w Tryz.prog 214 [.ptr (e0,X) 0] (((e0,X),pbx s i 0 0)::zhr τ (e0+1)) [((e0,X),zov s (z92 spC (rst s i)))] (z96 eRg (eRg 0) (z92 spC (rst s i))):=by
 refine z10 fun H hH=>?_
 have hX:H e0 X=some (pbx s i 0 0):=hH ((e0,X),pbx s i 0 0) (by simp)
 have hT:HT τ (e0+1) H:=HT.of (bs:=[((e0,X),pbx s i 0 0)]) hH
 refine z08 Tryz.func214 (by kernel_rfl) rfl (by simp) ?_
 dsimp only[Tryz.f214]
 have hn:=z42 (X:=X) τ s i hi 0 0 (e0+1)
 have hf:=z5p (X:=X) s (I .i64 i) i 3 (e0+1) (by decide)
 have hr:=zmm s i
 have hcr:=z5w ybb (nx (rst s i)) hr.1 hr.2
 by_cases hlt:i<s.size
 · have hx:=zbl hlt
   have e1:=z3c hlt
   by_cases hc:nx (rst s i)=92∨spC.contains (nx (rst s i))=false
   · have hch:=zzu hX0 hX1 τ s hs ybb i hi (by rw[hx];omega) hc (e0+1)
     have h0:0≤nx (rst s i):=by rw[hx];omega
     rcases hp:z92 spC (rst s i) with ⟨c,r⟩|⟨a,e⟩|_
     · exact zD118
     · exact zD118
     · exfalso
       have:=hp
       rw[e1,z3s] at this
       split at this
       · split at this
         · simp at this
         · split at this <;> simp at this
       · split at this <;> simp at this
   · have h1:nx (rst s i)≠92:=fun h=>hc (.inl h)
     have h2:spC.contains (nx (rst s i))=true:=by
      cases h:spC.contains (nx (rst s i)) with
      | true=>rfl
      | false=>exact absurd (.inr h) hc
     rw[h2] at hcr
     have h0:0≤nx (rst s i):=by rw[hx];omega
     have hp:z92 spC (rst s i)=.err (rst s i) 3:=by
      rw[e1,z3s]
      simp only
      rw[← hx,zAy h1,zAz h2]
     rw[hp,z5j hi]
     repeat' (first|(apply z0i;(refine z2r hX ?_))|(apply z03;(first|refine z2x hf rfl hX (by decide) ?_|refine z0s hn (z07 (m:=(e0+1,X)) hX (bkT (by repeat (first|exact hT|refine HT.upd ?_ hX0 hX1)))) ?_| refine z1i hcr ?_))|refine z05 ?_|refine fk (fun _=>?_) (fun _=>?_))
     all_goals exact zD77
 · have e1:=z29 (s:=s) (i:=i) (by omega)
   have hp:z92 spC (rst s i)=.err (rst s i) 3:=by rw[e1];rfl
   have hx:nx (rst s i)=-1:=by rw[e1];rfl
   rw[hp,z5j hi]
   rw[hx] at hn
   repeat' (first|(apply z0i;(refine z2r hX ?_))|(apply z03;(first|refine z2x hf rfl hX (by decide) ?_|refine z0s hn (z07 (m:=(e0+1,X)) hX (bkT (by repeat (first|exact hT|refine HT.upd ?_ hX0 hX1)))) ?_))|refine z05 ?_|fail)
   all_goals exact zD77
theorem zo3 (k:Int) (hk0:0≤k) (hk:k≤16) (i:Nat) (hi:i≤s.size) (e0:Nat) :
 z0w Tryz.prog 211 [.ptr (e0,X) 0,I .i64 k] (((e0,X),pbx s i 0 0)::zhr τ (e0+1)) [((e0,X),zov s (ze5 k (rst s i)))] (z96 eN (eN 0) (ze5 k (rst s i))):=by
 refine z10 fun H hH=>?_
 have hX:H e0 X=some (pbx s i 0 0):=hH ((e0,X),pbx s i 0 0) (by simp)
 have hT:HT τ (e0+1) H:=HT.of (bs:=[((e0,X),pbx s i 0 0)]) hH
 refine z08 Tryz.func211 (by kernel_rfl) rfl (by simp) ?_
 dsimp only[Tryz.f211]
 have hn:=z42 (X:=X) τ s i hi 0 0 (e0+1)
 have hf:=z5p (X:=X) s (I .i64 i) i 3 (e0+1) (by decide)
 have hd:=zrf (nx (rst s i))
 cases hg:dgt (nx (rst s i)) with
 | false =>
  rw[hg] at hd
  have hp:ze5 k (rst s i)=.err (rst s i) 3:=by
   by_cases hlt:i<s.size
   · have hx:=zbl hlt
     have e1:=z3c hlt
     rw[e1,zc3,← hx,zAz hg]
   · rw[z29 (by omega)];rfl
  rw[hp,z5j hi]
  repeat' (first|(apply z0i;(refine z2r hX ?_))|(apply z03;(first|refine z2x hf rfl hX (by decide) ?_|refine z0s hn (z07 (m:=(e0+1,X)) hX (bkT (by repeat (first|exact hT|refine HT.upd ?_ hX0 hX1)))) ?_| refine z1i hd ?_))|refine z05 ?_|fail)
  all_goals exact zD40
 | true =>
  rw[hg] at hd
  obtain⟨hc0,hc1⟩:=y7f hg
  obtain⟨hlt,ht,he⟩:=z2e hi rfl (by omega) (by omega)
  generalize hc:nx (rst s i)=c at *
  have hn1:=z42 (X:=X) τ s (i+1) hlt 0 0 (e0+1)
  have hd1:=zrf (nx (rst s (i+1)))
  have hf1:=z5p (X:=X) s (I .i64 ((i+1:Nat):Int)) ((i+1:Nat):Int) 3 (e0+1) (by decide)
  have hf2:=z5p (X:=X) s (I .i64 ((i+1:Nat):Int)) i 8 (e0+1) (by decide)
  have hf3:=z5p (X:=X) s (I .i64 ((i+2:Nat):Int)) i 8 (e0+1) (by decide)
  have hnil:=zqg (s:=s) (i:=i+1) hlt
  have hbe:=z5j (α:=Int) (s:=s) (e:=8) hi
  rw[he] at hbe
  rw[he,zc3,zAy (by rw[hg];decide)]
  by_cases hA:0<c-48∧i+1=s.size
  · rw[zAz ⟨hA.1,hnil.2 hA.2⟩,← hnil.2 hA.2,z5j hlt]
    repeat' (first|(apply z0i;(first|refine z2r (z02 _ (e0,X) _) ?_| refine z2r hX ?_))|(apply z0e;(refine z4c (z02 _ (e0,X) _) ?_))|(apply z0v;(refine z0c (z1e (zab (by omega) (by omega))) rfl rfl ?_))|(apply z03;(first|refine z2x hf1 rfl (z02 _ (e0,X) _) (by decide) ?_|refine z0s hn1 (z07 (m:=(e0+1,X)) (z02 _ (e0,X) _) (bkT (by repeat (first|exact hT|refine HT.upd ?_ hX0 hX1)))) ?_| refine z0s hn (z07 (m:=(e0+1,X)) hX (bkT (by repeat (first|exact hT|refine HT.upd ?_ hX0 hX1)))) ?_| refine z1i hd ?_))|(apply z0o;(refine z1r (raw':=pbx s ((i+1:Nat):Int) 0 0) hX ?_))|refine z05 ?_|refine fk (fun _=>?_) (fun _=>?_)|(refine z16 (fun hg=>?_) (fun hg=>?_)<;> simp only[hg] <;> (try simp only[zA3,zA5,zA6,zA8] at hg)))
    all_goals exact zD40
  · rw[zAy (fun h=>hA ⟨h.1,hnil.1 h.2⟩)]
    by_cases hB:0<c-48∧dgt (nx (rst s (i+1)))=true
    · rw[zAz hB]
      rw[hB.2] at hd1
      obtain⟨hc2,hc3⟩:=y7f hB.2
      obtain⟨hlt1,ht1,he1⟩:=z2e (i:=i+1) hlt rfl (by omega) (by omega)
      rw[ht1]
      generalize hc':nx (rst s (i+1))=c' at *
      have hB1:=hB.1
      have hpos:i+1<s.size:=hlt1
      by_cases hC:16<10*(c-48)+(c'-48)∨10*(c-48)+(c'-48)<k
      · rw[zAz hC,hbe]
        repeat' (first|(apply z0i;(first|refine z2r (z02 _ (e0,X) _) ?_| refine z2r hX ?_))|(apply z0e;(refine z4c (z02 _ (e0,X) _) ?_))|(apply z0v;(refine z0c (z1e (zab (by omega) (by omega))) rfl rfl ?_))|(apply z03;(first|refine z2x hf3 rfl (z02 _ (e0,X) _) (by decide) ?_|refine z0s hn1 (z07 (m:=(e0+1,X)) (z02 _ (e0,X) _) (bkT (by repeat (first|exact hT|refine HT.upd ?_ hX0 hX1)))) ?_| refine z0s hn (z07 (m:=(e0+1,X)) hX (bkT (by repeat (first|exact hT|refine HT.upd ?_ hX0 hX1)))) ?_| refine z1i hd ?_| refine z1i hd1 ?_))|(apply z0o;(first|refine z1r (raw':=pbx s ((i+2:Nat):Int) 0 0) (z02 _ (e0,X) _) ?_| refine z1r (raw':=pbx s ((i+1:Nat):Int) 0 0) hX ?_))|refine z05 ?_|refine fk (fun _=>?_) (fun _=>?_)|(refine z16 (fun hg=>?_) (fun hg=>?_)<;> simp only[hg] <;> (try simp only[zA3,zA5,zA6,zA8] at hg)))
        all_goals exact zD40
      · rw[zAy hC,z3u (by omega)]
        repeat' (first|(apply z0i;(first|refine z2r (z02 _ (e0,X) _) ?_| refine z2r hX ?_))|(apply z0e;(refine z4c (z02 _ (e0,X) _) ?_))|(apply z0v;(refine z0c (z1e (zab (by omega) (by omega))) rfl rfl ?_))|(apply z03;(first|refine z2x hf3 rfl (z02 _ (e0,X) _) (by decide) ?_|refine z0s hn1 (z07 (m:=(e0+1,X)) (z02 _ (e0,X) _) (bkT (by repeat (first|exact hT|refine HT.upd ?_ hX0 hX1)))) ?_| refine z0s hn (z07 (m:=(e0+1,X)) hX (bkT (by repeat (first|exact hT|refine HT.upd ?_ hX0 hX1)))) ?_| refine z1i hd ?_| refine z1i hd1 ?_))|(apply z0o;(first|refine z1r (raw':=pbx s ((i+2:Nat):Int) 0 0) (z02 _ (e0,X) _) ?_| refine z1r (raw':=pbx s ((i+1:Nat):Int) 0 0) hX ?_))|refine z05 ?_|refine fk (fun _=>?_) (fun _=>?_)|(refine z16 (fun hg=>?_) (fun hg=>?_)<;> simp only[hg] <;> (try simp only[zA3,zA5,zA6,zA8] at hg)))
        all_goals try (exfalso;omega)
        all_goals ((repeat rw[z0a]);first|exact z00 Tryz.func211 _ (z04 rfl rfl rfl rfl rfl rfl rfl) ⟨rfl,rfl⟩|exact z00 Tryz.func211 _ z0z ⟨rfl,rfl⟩|exact z00 Tryz.func211 _ z11 ⟨rfl,rfl⟩|exact z00 Tryz.func211 _ z1h ⟨rfl,rfl⟩)
    · rw[zAy hB]
      have hdf:0<c-48→dgt (nx (rst s (i+1)))=false:=fun h=>by
       cases h2:dgt (nx (rst s (i+1))) with
       | false=>rfl
       | true=>exact absurd ⟨h,h2⟩ hB
      have hlx:0<c-48→i+1<s.size:=fun h=>by
       false_or_by_contra
       exact hA ⟨h,by omega⟩
      by_cases hC:16<c-48∨c-48<k
      · rw[zAz hC,hbe]
        by_cases hz:0<c-48
        · have hdf:=hdf hz
          have hlx:=hlx hz
          rw[hdf] at hd1
          all_goals exact zD16
        · all_goals exact zD16
      · rw[zAy hC,z3u (by omega)]
        by_cases hz:0<c-48
        · have hdf:=hdf hz
          have hlx:=hlx hz
          rw[hdf] at hd1
          all_goals exact zD17
        · all_goals exact zD17
end
theorem zld {k v:Int} {l r:List U} (h:ze5 k l=.ok v r):k≤v∧v≤16:=by
 cases l with
 | nil=>simp[ze5] at h
 | cons u l =>
  obtain⟨c,n⟩:=u
  rw[zc3] at h
  split at h
  · simp at h
  split at h
  · simp at h
  split at h
  · exact zD131
  · exact zD131
theorem zln {k:Int} {l:List U}:ze5 k l≠.out:=by
 intro h
 cases l with
 | nil=>simp[ze5] at h
 | cons u l =>
  obtain⟨c,n⟩:=u
  rw[zc3] at h
  exact zD135
def rsB:Rd (Int × Int)→PV
 | .ok a _=>.tup [I .i64 a.1,I .i64 a.2,B true]
 | .err _ _=>.tup [I .i64 0,I .i64 0,B false]
 | .out=>.any
theorem zsz {k v:Int} {s:ByteArray} {i:Nat} {r:List U} (hi:i≤s.size) (h:ze5 k (rst s i)=.ok v r):∃ j,i≤j∧j≤s.size∧r=rst s j:=by
 have h1:=(zgi k (rst s i)).1
 rw[h] at h1
 exact z5e s _ i r (zAj _) hi h1
section
variable {X:Nat} (hX0:X≠700) (hX1:X≠701) (τ:Tab) (s:ByteArray) (hs:s.size≤1000000)
include hX0 hX1 hs
theorem zll (i:Nat) (hi:i≤s.size) (e0:Nat) :
 z0w Tryz.prog 197 [.ptr (e0,X) 0] (((e0,X),pbx s i 0 0)::zhr τ (e0+1)) [((e0,X),zov s (z90 (rst s i)))] (rsB (z90 (rst s i))):=by
 refine z10 fun H hH=>?_
 have hX:H e0 X=some (pbx s i 0 0):=hH ((e0,X),pbx s i 0 0) (by simp)
 have hT:HT τ (e0+1) H:=HT.of (bs:=[((e0,X),pbx s i 0 0)]) hH
 refine z08 Tryz.func197 (by kernel_rfl) rfl (by simp) ?_
 dsimp only[Tryz.f197]
 have hm:=zo3 hX0 hX1 τ s hs 0 (by decide) (by decide) i hi (e0+1)
 rcases hp:ze5 0 (rst s i) with ⟨lo,r⟩|⟨a,e⟩|_
 · obtain⟨j,hj1,hj,rfl⟩:=zsz hi hp
   have hlo:=zld hp
   rw[hp,z3u hj] at hm
   have hn:=z42 (X:=X) τ s j hj 0 0 (e0+1)
   by_cases hc:nx (rst s j)=44
   · obtain⟨hjl,ht,he⟩:=z2e hj hc (by decide) (by decide)
     have hn1:=z42 (X:=X) τ s (j+1) hjl 0 0 (e0+1)
     by_cases h2:nx (rst s (j+1))=125
     · have hq:z90 (rst s i)=.ok (lo,-1) (rst s (j+1)):=by
        rw[z90,hp];simp only
        rw[zAz hc,ht,zAz h2,zei,zAz h2]
       rw[hq,z3u hjl]
       repeat' (first|(apply z0i;(refine z2r (z02 _ (e0,X) _) ?_))|(apply z03;(first|refine z1v hm hX (bkT (by repeat (first|exact hT|refine HT.upd ?_ hX0 hX1))) ?_| refine z0s hn1 (z07 (m:=(e0+1,X)) (z02 _ (e0,X) _) (bkT (by repeat (first|exact hT|refine HT.upd ?_ hX0 hX1)))) ?_| refine z0s hn (z07 (m:=(e0+1,X)) (z02 _ (e0,X) _) (bkT (by repeat (first|exact hT|refine HT.upd ?_ hX0 hX1)))) ?_))|(apply z0o;(refine z1r (raw':=pbx s ((j+1:Nat):Int) 0 0) (z02 _ (e0,X) _) ?_))|refine z05 ?_|refine fk (fun _=>?_) (fun _=>?_))
       all_goals exact zD21
     · have hm2:=zo3 hX0 hX1 τ s hs lo hlo.1 hlo.2 (j+1) hjl (e0+1)
       rcases hp2:ze5 lo (rst s (j+1)) with ⟨hi',r⟩|⟨a,e⟩|_
       · obtain⟨m,hm1,hmm,rfl⟩:=zsz (by omega) hp2
         have hhi:=zld hp2
         rw[hp2,z3u hmm] at hm2
         have hn2:=z42 (X:=X) τ s m hmm 0 0 (e0+1)
         have hf:=z5p (X:=X) s (I .i64 (m:Nat)) (m:Nat) 3 (e0+1) (by decide)
         have hq:z90 (rst s i)=zei lo hi' (rst s m):=by
          rw[z90,hp];simp only
          rw[zAz hc,ht,zAy h2,hp2]
         rw[hq,zei]
         by_cases h3:nx (rst s m)=125
         · rw[zAz h3,z3u hmm]
           repeat' (first|(apply z0i;(refine z2r (z02 _ (e0,X) _) ?_))|(apply z03;(first|refine z2x hf rfl (z02 _ (e0,X) _) (by decide) ?_|refine z1v hm2 (z02 _ (e0,X) _) (bkT (by repeat (first|exact hT|refine HT.upd ?_ hX0 hX1))) ?_| refine z1v hm hX (bkT (by repeat (first|exact hT|refine HT.upd ?_ hX0 hX1))) ?_| refine z0s hn2 (z07 (m:=(e0+1,X)) (z02 _ (e0,X) _) (bkT (by repeat (first|exact hT|refine HT.upd ?_ hX0 hX1)))) ?_| refine z0s hn1 (z07 (m:=(e0+1,X)) (z02 _ (e0,X) _) (bkT (by repeat (first|exact hT|refine HT.upd ?_ hX0 hX1)))) ?_| refine z0s hn (z07 (m:=(e0+1,X)) (z02 _ (e0,X) _) (bkT (by repeat (first|exact hT|refine HT.upd ?_ hX0 hX1)))) ?_))|(apply z0o;(refine z1r (raw':=pbx s ((j+1:Nat):Int) 0 0) (z02 _ (e0,X) _) ?_))|refine z05 ?_|refine fk (fun _=>?_) (fun _=>?_))
           all_goals exact zD21
         · rw[zAy h3,z5j hmm]
           repeat' (first|(apply z0i;(refine z2r (z02 _ (e0,X) _) ?_))|(apply z03;(first|refine z2x hf rfl (z02 _ (e0,X) _) (by decide) ?_|refine z1v hm2 (z02 _ (e0,X) _) (bkT (by repeat (first|exact hT|refine HT.upd ?_ hX0 hX1))) ?_| refine z1v hm hX (bkT (by repeat (first|exact hT|refine HT.upd ?_ hX0 hX1))) ?_| refine z0s hn2 (z07 (m:=(e0+1,X)) (z02 _ (e0,X) _) (bkT (by repeat (first|exact hT|refine HT.upd ?_ hX0 hX1)))) ?_| refine z0s hn1 (z07 (m:=(e0+1,X)) (z02 _ (e0,X) _) (bkT (by repeat (first|exact hT|refine HT.upd ?_ hX0 hX1)))) ?_| refine z0s hn (z07 (m:=(e0+1,X)) (z02 _ (e0,X) _) (bkT (by repeat (first|exact hT|refine HT.upd ?_ hX0 hX1)))) ?_))|(apply z0o;(refine z1r (raw':=pbx s ((j+1:Nat):Int) 0 0) (z02 _ (e0,X) _) ?_))|refine z05 ?_|refine fk (fun _=>?_) (fun _=>?_))
           all_goals exact zD75
       · rw[hp2] at hm2
         have hq:z90 (rst s i)=.err a e:=by
          rw[z90,hp];simp only
          rw[zAz hc,ht,zAy h2,hp2]
         rw[hq]
         repeat' (first|(apply z0i;(refine z2r (z02 _ (e0,X) _) ?_))|(apply z03;(first|refine z1v hm2 (z02 _ (e0,X) _) (bkT (by repeat (first|exact hT|refine HT.upd ?_ hX0 hX1))) ?_| refine z1v hm hX (bkT (by repeat (first|exact hT|refine HT.upd ?_ hX0 hX1))) ?_| refine z0s hn1 (z07 (m:=(e0+1,X)) (z02 _ (e0,X) _) (bkT (by repeat (first|exact hT|refine HT.upd ?_ hX0 hX1)))) ?_| refine z0s hn (z07 (m:=(e0+1,X)) (z02 _ (e0,X) _) (bkT (by repeat (first|exact hT|refine HT.upd ?_ hX0 hX1)))) ?_))|(apply z0o;(refine z1r (raw':=pbx s ((j+1:Nat):Int) 0 0) (z02 _ (e0,X) _) ?_))|refine z05 ?_|refine fk (fun _=>?_) (fun _=>?_))
         all_goals exact zD21
       · exact absurd hp2 zln
   · have hf:=z5p (X:=X) s (I .i64 (j:Nat)) (j:Nat) 3 (e0+1) (by decide)
     have hq:z90 (rst s i)=zei lo lo (rst s j):=by
      rw[z90,hp];simp only
      rw[zAy hc]
     rw[hq,zei]
     by_cases h3:nx (rst s j)=125
     · rw[zAz h3,z3u hj]
       repeat' (first|(apply z0i;(refine z2r (z02 _ (e0,X) _) ?_))|(apply z03;(first|refine z2x hf rfl (z02 _ (e0,X) _) (by decide) ?_|refine z1v hm hX (bkT (by repeat (first|exact hT|refine HT.upd ?_ hX0 hX1))) ?_| refine z0s hn (z07 (m:=(e0+1,X)) (z02 _ (e0,X) _) (bkT (by repeat (first|exact hT|refine HT.upd ?_ hX0 hX1)))) ?_))|refine z05 ?_|refine fk (fun _=>?_) (fun _=>?_))
       all_goals exact zD21
     · rw[zAy h3,z5j hj]
       repeat' (first|(apply z0i;(refine z2r (z02 _ (e0,X) _) ?_))|(apply z03;(first|refine z2x hf rfl (z02 _ (e0,X) _) (by decide) ?_|refine z1v hm hX (bkT (by repeat (first|exact hT|refine HT.upd ?_ hX0 hX1))) ?_| refine z0s hn (z07 (m:=(e0+1,X)) (z02 _ (e0,X) _) (bkT (by repeat (first|exact hT|refine HT.upd ?_ hX0 hX1)))) ?_))|refine z05 ?_|refine fk (fun _=>?_) (fun _=>?_))
       all_goals exact zD75
 · rw[hp] at hm
   have hq:z90 (rst s i)=.err a e:=by
    rw[z90,hp]
   rw[hq]
   repeat' (first|(apply z03;(refine z1v hm hX (bkT (by repeat (first|exact hT|refine HT.upd ?_ hX0 hX1))) ?_))|refine z05 ?_|fail)
   all_goals exact zD21
 · exact absurd hp zln
end
end Go.Proofs.YtmcggompdmngmaaGreatDoor
namespace Go.Proofs.YtmcggompdmngmaaGreatDoor
open Go.Proofs
open Go.Shelf
def zod:Go.Shelf.Ren:=⟨fun|6=>220|15=>122|14=>226|28=>159|29=>160|20=>228|21=>229|22=>230|23=>231|24=>232|25=>233|26=>234|27=>235|46=>237|47=>182|48=>183|49=>238|50=>239|57=>240|n=>n,fun|22=>48|24=>47|25=>283|3=>3|39=>169|0=>0|53=>234|55=>108|4=>4|46=>228|45=>227|50=>143|5=>5|9=>9|66=>251|70=>155|76=>264|77=>67|n=>n,fun|n=>n⟩
theorem zzh:Go.Proofs.SlLaysF0.n6 Tryz.prog zod:={
 mixed:=by kernel_rfl
 f6:=⟨Tryz.f220.name,by decide,Tryz.func220.trans (congrArg some (by kernel_rfl))⟩
 f14:=⟨Tryz.f226.name,by decide,Tryz.func226.trans (congrArg some (by kernel_rfl))⟩
 f15:=Tryz.func122.trans (congrArg some (by kernel_rfl))
 f20:=⟨Tryz.f228.name,by decide,Tryz.func228.trans (congrArg some (by kernel_rfl))⟩
 f21:=⟨Tryz.f229.name,by decide,Tryz.func229.trans (congrArg some (by kernel_rfl))⟩
 f22:=⟨Tryz.f230.name,by decide,Tryz.func230.trans (congrArg some (by kernel_rfl))⟩
 f23:=⟨Tryz.f231.name,by decide,Tryz.func231.trans (congrArg some (by kernel_rfl))⟩
 f24:=⟨Tryz.f232.name,by decide,Tryz.func232.trans (congrArg some (by kernel_rfl))⟩
 f25:=⟨Tryz.f233.name,by decide,Tryz.func233.trans (congrArg some (by kernel_rfl))⟩
 f26:=⟨Tryz.f234.name,by decide,Tryz.func234.trans (congrArg some (by kernel_rfl))⟩
 f27:=⟨Tryz.f235.name,by decide,Tryz.func235.trans (congrArg some (by kernel_rfl))⟩
 f28:=Tryz.func159.trans (congrArg some (by kernel_rfl))
 f29:=Tryz.func160.trans (congrArg some (by kernel_rfl))
 f46:=⟨Tryz.f237.name,by decide,Tryz.func237.trans (congrArg some (by kernel_rfl))⟩
 f47:=Tryz.func182.trans (congrArg some (by kernel_rfl))
 f48:=Tryz.func183.trans (congrArg some (by kernel_rfl))
 f49:=⟨Tryz.f238.name,by decide,Tryz.func238.trans (congrArg some (by kernel_rfl))⟩
 f50:=⟨Tryz.f239.name,by decide,Tryz.func239.trans (congrArg some (by kernel_rfl))⟩
 f57:=⟨Tryz.f240.name,by decide,Tryz.func240.trans (congrArg some (by kernel_rfl))⟩
 t0:=Tryz.underlying0
 a0:=Tryz.isAgg0
 z0:=Tryz.sizeOf0
 v0:=Tryz.zeroValue0
 t3:=Tryz.underlying3
 a3:=Tryz.isAgg3
 z3:=Tryz.sizeOf3
 v3:=Tryz.zeroValue3
 t4:=Tryz.underlying4
 a4:=Tryz.isAgg4
 z4:=Tryz.sizeOf4
 v4:=Tryz.zeroValue4
 t5:=Tryz.underlying5
 a5:=Tryz.isAgg5
 z5:=Tryz.sizeOf5
 v5:=Tryz.zeroValue5
 t9:=Tryz.underlying9
 a9:=Tryz.isAgg9
 z9:=Tryz.sizeOf9
 v9:=Tryz.zeroValue9
 t22:=Tryz.underlying48
 a22:=Tryz.isAgg48
 z22:=Tryz.sizeOf48
 v22:=Tryz.zeroValue48
 t25:=Tryz.underlying283
 a25:=Tryz.isAgg283
 z25:=Tryz.sizeOf283
 v25:=Tryz.zeroValue283
 t39:=Tryz.underlying169
 a39:=Tryz.isAgg169
 z39:=Tryz.sizeOf169
 v39:=Tryz.zeroValue169
 t45:=Tryz.underlying227
 a45:=Tryz.isAgg227
 z45:=Tryz.sizeOf227
 v45:=Tryz.zeroValue227
 t46:=Tryz.underlying228
 a46:=Tryz.isAgg228
 z46:=Tryz.sizeOf228
 v46:=Tryz.zeroValue228
 t50:=Tryz.underlying143
 a50:=Tryz.isAgg143
 z50:=Tryz.sizeOf143
 v50:=Tryz.zeroValue143
 t53:=Tryz.underlying234
 a53:=Tryz.isAgg234
 z53:=Tryz.sizeOf234
 v53:=Tryz.zeroValue234
 t55:=Tryz.underlying108
 a55:=Tryz.isAgg108
 z55:=Tryz.sizeOf108
 v55:=Tryz.zeroValue108
 t66:=Tryz.underlying251
 a66:=Tryz.isAgg251
 z66:=Tryz.sizeOf251
 v66:=Tryz.zeroValue251
 t70:=Tryz.underlying155
 a70:=Tryz.isAgg155
 z70:=Tryz.sizeOf155
 v70:=Tryz.zeroValue155
 t76:=Tryz.underlying264
 a76:=Tryz.isAgg264
 z76:=Tryz.sizeOf264
 v76:=Tryz.zeroValue264
 t77:=Tryz.underlying67
 a77:=Tryz.isAgg67
 z77:=Tryz.sizeOf67
 v77:=Tryz.zeroValue67 }
open Go.RowKit Go.Lib Go.Sort
theorem y48 (x:Int) (w:World):Calls Tryz.prog 180 #[.int .i32 x] w fun e w'=>e=.returned (.bool false)∧w'=w:=by
 go_enter Tryz.func180,Tryz.ntmps180
 go_wp2
 go_ret
 exact⟨by simp,rfl⟩
theorem yav (x y:Int) (w:World):Calls Tryz.prog 146 #[.int .i32 x,.int .i32 y] w fun e w'=>e=.returned (.int .i64 (Lib.compareInt x y))∧w'=w:=by
 go_enter Tryz.func146,Tryz.ntmps146
 go_wp2_with (go_at_call 180;refine(y48 _ _).mono ?_;rintro e w' ⟨rfl,hw⟩;rw[hw])
 all_goals (go_ret;refine⟨?_,rfl⟩;unfold Lib.compareInt;(repeat' split) <;> first|rfl|(exfalso;omega))
def y4x (x:Int × Int):List Value:=[.int .i32 x.1,.int .i32 x.2]
theorem zph (x y:Int × Int) (W:World):Calls Tryz.prog 221 #[.agg #[.int .i32 x.1,.int .i32 x.2],.agg #[.int .i32 y.1,.int .i32 y.2]] W fun e w'=>e=.returned (.int .i64 (Lib.compareInt x.1 y.1))∧∃ q os',w'=grow (W.drewN q) os':=by
 have hcon:=fun W'=>yav x.1 y.1 W'
 generalize Lib.compareInt x.1 y.1=r at hcon ⊢
 go_enter Tryz.func221,Tryz.ntmps221
 go_wp2_with (go_at_call 146;refine(hcon _).mono ?_;rintro e w' ⟨rfl,rfl⟩)
 go_ret
 exact⟨rfl,0,_,by rw[alloc_eq_grow,alloc_eq_grow,grow_grow];rfl⟩
abbrev cfR (x y:Int × Int):Int:=Lib.compareInt x.1 y.1
theorem ltR (x y:Int × Int):ltOf cfR x y=decide (x.1<y.1):=by
 unfold ltOf cfR Lib.compareInt
 by_cases h1:x.1<y.1
 · simp[h1]
 · by_cases h2:y.1<x.1 <;> simp[h1,h2]
theorem y9y:SWO (ltOf cfR) where
 irrefl x:=by rw[ltR];simp
 trans x y z h1 h2:=by rw[ltR] at *;simp at *;omega
 ntrans x y z h1 h2:=by rw[ltR] at *;simp at *;omega
theorem y1h (blk off cap:Nat) (zs:List (Int × Int)) (w:World) (hH:HoldsK y4x 2 w blk off zs.toArray) (hblk:blk<w.heap.size) (hsz:zs.length<4611686018427387904) :
 Calls Tryz.prog 220 #[.slice (some ⟨blk,off,none⟩) zs.length cap,.func (.func 221) #[] #[]] w fun e w' =>
  e=.returned (.tuple #[])∧∃ n os,w'=grow (putRowK y4x 2 (Sort.ahead w n) blk off (pdq (ltOf cfR) zs.toArray 0 zs.toArray.size (Lib.bitLen zs.toArray.size) true true)) os:=by
 have eg:∀ args w,(callFunc 221 args).run Tryz.prog w=.ok (.enter 221 args) w:=enters_of Tryz.func221 (by kernel_rfl) rfl
 exact AnyQ.slices_SortFunc_eq zzh 2 Tryz.isAgg47 Tryz.sizeOf47 y4x (fun _=>rfl) (fun x v hv=>by simp[y4x] at hv;rcases hv with rfl|rfl <;> rfl) cfR y9y 221 #[] blk off cap zs.toArray w eg (fun _ _ _ _ x y=>zph x y _) hH hblk (by simpa using hsz)
theorem zp6 (p:Option Addr) (cap:Nat) (fv:Value) (w:World) :
 Calls Tryz.prog 220 #[.slice p 0 cap,fv] w fun e w'=>e=.returned (.tuple #[])∧w'=w:=AnyF.slices_SortFunc_none zzh p cap fv w
end Go.Proofs.YtmcggompdmngmaaGreatDoor
namespace Go.Proofs.YtmcggompdmngmaaGreatDoor
open Go.Ab Go.Rx
set_option maxHeartbeats 20000000
set_option maxRecDepth 100000
attribute [local irreducible] Run Ops Op1 z14 Val Tr z0d z0w NF Rel z1z z27
theorem zyf (l:List Rg) (hl:l.length≤1000000) (hb:∀ r∈l,0≤r.1∧r.1≤1114111∧0≤r.2∧r.2≤1114111):z0d Tryz.prog 216 [.d (rgs l)] (.d (rgs (zpg 0 l))):=by
 refine z0y fun H=>?_
 refine z08 Tryz.func216 (by kernel_rfl) rfl (by simp) ?_
 dsimp only[Tryz.f216]
 repeat' (first|refine z05 ?_|fail)
 all_goals try (exfalso;omega)
 refine z1t 3 1000 47 2 rfl rfl rfl ?_
 refine z0l ?_
 refine z01 (z0x (fun q:Nat × Int × List Rg=>⟨37,[(7,.d (rgs l)),(8,I .i64 l.length),(9,I .i64 (q.1:Nat)),(4,I .i32 q.2.1),(3,.ref (0,1000))],[(1000,.row 47 2 (q.2.2.map rgc))],H⟩)
  (fun q=>q.1≤l.length∧0≤q.2.1∧q.2.1≤1114112∧q.2.2.length≤q.1∧q.2.2++zpg q.2.1 (l.drop q.1)=zpg 0 l) (fun q=>l.length-q.1) ?_ (0,0,[]) ⟨zAf _,by simp,by simp,by simp,by simp⟩) rfl rfl
 rintro⟨i,a,out⟩ ⟨i1,i2,i3,i4,i5⟩ ih
 simp only at i1 i2 i3 i4 i5 ih ⊢
 by_cases hlt:i<l.length
 · obtain⟨r,hr⟩:∃ r,l[i]? =some r:=⟨_,zA0 hlt⟩
   obtain⟨b1,b2,b3,b4⟩:=hb r (zA2 hr)
   rw[drop_cons hr,zpg] at i5
   by_cases hc:a<r.1
   · rw[zAz hc] at i5
     repeat' (first|(apply z09;(refine z0c (z1n (ys:=l.map rgc) rfl (idx hr)) rfl rfl ?_))|(apply z0v;(first|refine z0c (z1e (zab (by omega) (by omega))) rfl rfl ?_| refine z0c (z1f (zab (by omega) (by omega))) rfl rfl ?_))|(apply z1q;(refine z47 (g:=rgc) (a,r.1-1) rfl ?_))|refine z05 ?_|refine fk (fun _=>?_) (fun _=>?_))
     all_goals try (exfalso;omega)
     refine z2i 24 1000 ?_
     exact z01 (ih (i+1,r.2+1,out++[(a,r.1-1)]) ⟨by simp only;omega,by simp only;omega,by simp only;omega,by simp;omega,by simpa using i5⟩ (by simp only;omega)) rfl rfl
   · rw[zAy hc] at i5
     repeat' (first|(apply z09;(refine z0c (z1n (ys:=l.map rgc) rfl (idx hr)) rfl rfl ?_))|(apply z0v;(refine z0c (z1f (zab (by omega) (by omega))) rfl rfl ?_))|refine z05 ?_|refine fk (fun _=>?_) (fun _=>?_))
     all_goals try (exfalso;omega)
     exact z01 (ih (i+1,r.2+1,out) ⟨by simp only;omega,by simp only;omega,by simp only;omega,by simp;omega,by simpa using i5⟩ (by simp only;omega)) rfl rfl
 · obtain rfl:i=l.length:=by omega
   rw[zAs,zpg] at i5
   by_cases hc:a≤1114111
   · rw[zAz hc] at i5
     rw[← i5]
     repeat' (first|(apply z1q;(refine z47 (g:=rgc) (a,1114111) rfl ?_))|refine z05 ?_|refine fk (fun _=>?_) (fun _=>?_))
     all_goals try (exfalso;omega)
     refine z13 35 rfl ?_
     exact z00 Tryz.func216 _ z11 ⟨rfl,rfl⟩
   · rw[zAy hc,List.append_nil] at i5
     rw[← i5]
     repeat' (first|refine z05 ?_|refine fk (fun _=>?_) (fun _=>?_))
     all_goals try (exfalso;omega)
     refine z13 1000 rfl ?_
     exact z00 Tryz.func216 _ z11 ⟨rfl,rfl⟩
open Go.Sort Go.RowKit in
def srt (q:List Rg):List Rg:=(pdq (ltOf cfR) q.toArray 0 q.toArray.size (Lib.bitLen q.toArray.size) true true).toList
open Go.Sort Go.RowKit in
theorem z3o (q:List Rg):(srt q).Perm q:=by
 have h:=(pdq_sorts (ltOf cfR) y9y q.toArray 0 q.toArray.size (Lib.bitLen q.toArray.size) true true (zAf _) (zAj _) (Or.inl rfl)).1
 obtain⟨h1,_,h3⟩:=h
 rw[srt]
 generalize pdq (ltOf cfR) q.toArray 0 q.toArray.size (Lib.bitLen q.toArray.size) true true=d at *
 rw[← h1] at h3
 have h4:d.size=q.length:=by simpa using h1
 simp only[Array.extract_size,List.extract_toArray] at h3
 simpa[h4] using h3
open Go.Sort Go.RowKit in
theorem z7s (q:List Rg):(srt q).Pairwise fun x y=>x.1≤y.1:=by
 have hp:=z3o q
 have h:=(pdq_sorts (ltOf cfR) y9y q.toArray 0 q.toArray.size (Lib.bitLen q.toArray.size) true true (zAf _) (zAj _) (Or.inl rfl)).2
 rw[srt] at hp ⊢
 generalize pdq (ltOf cfR) q.toArray 0 q.toArray.size (Lib.bitLen q.toArray.size) true true=d at *
 have hl:=hp.length_eq
 rw[List.pairwise_iff_getElem]
 intro i j hi hj hij
 have:=h i j (zAf _) hij (by simpa[← hl] using hj)
 rw[ltR] at this
 have hi':i<d.size:=by simpa using hi
 have hj':j<d.size:=by simpa using hj
 rw[getElem!_pos d _ hj',getElem!_pos d _ hi'] at this
 simpa using this
theorem zze:∀ (l:List Rg) (a:Int),(∀ r∈l,a≤r.1∧r.1≤r.2)→(l.Pairwise fun x y=>x.1≤y.1)→zut a l
 | [],_,_,_=>trivial
 | r::l,a,h,hp=>by
  rw[List.pairwise_cons] at hp
  exact⟨(h r (by simp)).1,(h r (by simp)).2,zze l r.1 (fun x hx=>⟨hp.1 x hx,(h x (by simp[hx])).2⟩) hp.2⟩
theorem zv4 {q:List Rg} (h:∀ r∈q,0≤r.1∧r.1≤r.2):zbw (srt q)=norm q :=
 zvj h (zze _ 0 (fun r hr=>h r ((z3o q).mem_iff.1 hr)) (z7s q)) fun x=>(z3o q).mem_iff
theorem y6e (q:List Rg) (hq:q.length<4611686018427387904) (d x:Nat):z0w Tryz.prog 220 [.ref (d,x),.fn (.func 221) [] []] [((d,x),.row 47 2 (q.map rgc))] [((d,x),.row 47 2 ((srt q).map rgc))] (.tup []):=by
 have hl:(srt q).length=q.length:=(z3o q).length_eq
 refine zs7 (α:=Rg) (by decide) y4x (fun _=>rfl) (fun x v hv=>by simp[y4x] at hv;rcases hv with rfl|rfl <;> rfl) ⟨_,Tryz.func220,by kernel_rfl,by kernel_rfl⟩ (fv:=.func (.func 221) #[] #[]) (fun β w own v h=>?_) q (srt q) hl (fun blk off cap w h1 h2=>?_) (fun p cap w=>zp6 p cap _ w) d x
 · cases h with
   | fn f first cap fv cv h1 h2 hd1 hd2 =>
    obtain rfl:fv=[]:=by cases fv with|nil=>rfl|cons a b=>simp at h1
    obtain rfl:cv=[]:=by cases cv with|nil=>rfl|cons a b=>simp at h2
    rfl
 · exact y1h blk off cap q w h1 h2 hq
theorem zvr {pre:List Rg} {p v:Rg}:(pre++[p]).set ((((pre++[p]).length:Nat):Int)-1).toNat v=pre++[v]:=by
 rw[show ((((pre++[p]).length:Nat):Int)-1).toNat=pre.length by simp]
 simp
theorem zhi {pre:List Rg} {p:Rg}:(pre++[p])[((((pre++[p]).length:Nat):Int)-1).toNat]? =some p:=by
 rw[show ((((pre++[p]).length:Nat):Int)-1).toNat=pre.length by simp]
 simp
theorem zmo (q:List Rg) (hq:q.length≤1000000) (hb:∀ r∈q,0≤r.1∧r.1≤r.2∧r.2≤1114111):z0w Tryz.prog 215 [.ref (0,1000)] [((0,1000),.row 47 2 (q.map rgc))] [((0,1000),.gone)] (.d (rgs (norm q))):=by
 refine z10 fun H hH=>?_
 have hX:H 0 1000=some (.row 47 2 (q.map rgc)):=hH ((0,1000),.row 47 2 (q.map rgc)) (by simp)
 refine z08 Tryz.func215 (by kernel_rfl) rfl (by simp) ?_
 dsimp only[Tryz.f215]
 rw[← zv4 fun r hr=>⟨(hb r hr).1,(hb r hr).2.1⟩]
 have hst:=y6e q (by omega) 0 2000
 have hl:(srt q).length=q.length:=(z3o q).length_eq
 have hbs:∀ r∈srt q,0≤r.1∧r.1≤r.2∧r.2≤1114111:=fun r hr=>hb r ((z3o q).mem_iff.1 hr)
 generalize srt q=S at *
 refine z1k 2000 0 1000 hX rfl rfl ?_
 repeat' (first|(apply z03;((refine z3v hst ?_;refine z84 2000 rfl ?_)))|refine z05 ?_|fail)
 all_goals try (exfalso;omega)
 refine z1t 3 1000 47 2 rfl rfl rfl ?_
 refine z0l ?_
 refine z01 (z0x (fun q:Nat × List Rg=>⟨51,[(9,.d (rgs S)),(10,I .i64 S.length),(11,I .i64 (q.1:Nat)),(3,.ref (0,1000))],[(1000,.row 47 2 (q.2.map rgc))],upd H (0,1000) .gone⟩)
  (fun q=>q.1≤S.length∧((q.1=0∧q.2=[])∨∃ pre p,q.2=pre++[p]∧pre.length<q.1∧0≤p.2∧p.2≤1114111∧pre++z8f p (S.drop q.1)=zbw S)) (fun q=>S.length-q.1) ?_ (0,[]) ⟨zAf _,.inl ⟨rfl,rfl⟩⟩) rfl rfl
 rintro⟨i,out⟩ ⟨i1,i2⟩ ih
 simp only at i1 i2 ih ⊢
 by_cases hlt:i<S.length
 · obtain⟨r,hr⟩:∃ r,S[i]? =some r:=⟨_,zA0 hlt⟩
   obtain⟨b1,b2,b3⟩:=hbs r (zA2 hr)
   rcases i2 with ⟨rfl,rfl⟩|⟨pre,p,rfl,j1,j2,j3,j4⟩
   · repeat' (first|(apply z09;(refine z0c (z1n (ys:=S.map rgc) rfl (idx hr)) rfl rfl ?_))|(apply z1q;(refine z6h (q:=([]:List Rg)) (g:=rgc) rfl rfl r rfl rfl rfl rfl rfl rfl rfl (by decide) (by simp) ?_))|refine z05 ?_|refine fk (fun _=>?_) (fun _=>?_))
     all_goals try (exfalso;omega)
     refine z2i 48 1000 ?_
     exact z01 (ih (1,[r]) ⟨by simp only;omega,.inr ⟨[],r,rfl,by simp,by omega,b3,by rw[List.nil_append,← show zbw (r::S.drop 1)=z8f r (S.drop 1) from rfl,← drop_cons hr,List.drop_zero]⟩⟩ (by simp only;omega)) rfl rfl
   · rw[drop_cons hr,z8f] at j4
     have hla:((pre++[p]).length:Int)=pre.length+1:=by simp
     by_cases hc:r.1≤p.2+1
     · rw[zAz hc] at j4
       repeat' (first|(apply z0e;(refine z0k (z0m zhi) rfl rfl ?_))|(apply z09;(refine z0c (z1n (ys:=S.map rgc) rfl (idx hr)) rfl rfl ?_))|(apply z06;(refine z0k (z1m rfl (by rw[zA4];omega)) rfl rfl ?_))|(apply z1l;(refine z0k (z1f (zab (by omega) (by omega))) rfl rfl ?_))|(apply z15;(refine z0g (p.1,max p.2 r.2) (by first|exact rfl|exact⟨_,rfl,rfl,rfl⟩) rfl rfl rfl rfl zhi rfl rfl rfl zvr ?_))|refine z05 ?_|refine fk (fun _=>?_) (fun _=>?_)|(refine z16 (fun hg=>?_) (fun hg=>?_)<;> simp only[hg] <;> (try simp only[zA3,zA5,zA6,zA8] at hg)))
       all_goals try (exfalso;omega)
       exact z01 (ih (i+1,pre++[(p.1,max p.2 r.2)]) ⟨by simp only;omega,.inr ⟨pre,_,rfl,by simp only;omega,by simp only;omega,by simp only;omega,j4⟩⟩ (by simp only;omega)) rfl rfl
     · rw[zAy hc] at j4
       repeat' (first|(apply z0e;(refine z0k (z0m zhi) rfl rfl ?_))|(apply z09;(refine z0c (z1n (ys:=S.map rgc) rfl (idx hr)) rfl rfl ?_))|(apply z06;(refine z0k (z1m rfl (by rw[zA4];omega)) rfl rfl ?_))|(apply z1l;(refine z0k (z1f (zab (by omega) (by omega))) rfl rfl ?_))|(apply z1q;(refine z47 (g:=rgc) r rfl ?_))|refine z05 ?_|refine fk (fun _=>?_) (fun _=>?_)|(refine z16 (fun hg=>?_) (fun hg=>?_)<;> simp only[hg] <;> (try simp only[zA3,zA5,zA6,zA8] at hg)))
       all_goals try (exfalso;omega)
       refine z2i 48 1000 ?_
       exact z01 (ih (i+1,pre++[p]++[r]) ⟨by simp only;omega,.inr ⟨pre++[p],r,rfl,by simp only[zAa,zAn];omega,by omega,b3,by rw[zAl];exact j4⟩⟩ (by simp only;omega)) rfl rfl
 · obtain rfl:i=S.length:=by omega
   rw[zAs] at i2
   have hout:out=zbw S:=by
    rcases i2 with ⟨h1,rfl⟩|⟨pre,p,rfl,j1,j2,j3,j4⟩
    · rw[List.length_eq_zero_iff.1 h1];rfl
    · rw[← j4,z8f]
   rw[← hout]
   repeat' (first|refine z05 ?_|refine fk (fun _=>?_) (fun _=>?_))
   all_goals try (exfalso;omega)
   refine z13 1000 rfl ?_
   exact z00 Tryz.func215 _ z11 ⟨rfl,rfl⟩
theorem zg1 {sp:List Int} {s:ByteArray} {i:Nat} {c:Int} {r:List U} (hi:i≤s.size) (h:z92 sp (rst s i)=.ok c r):(0≤c∧c≤1114111)∧∃ j,i<j∧j≤s.size∧r=rst s j:=by
 have h1:=zce sp (rst s i)
 have hr:0≤c∧c≤1114111:=by
  have hlt:i<s.size:=by
   false_or_by_contra
   rw[z29 (by omega)] at h;simp[z92] at h
  have g0:=zbn s i
  rw[z3c hlt,z3s] at h
  split at h
  · by_cases h2:i+(Utf8.decode s i).2<s.size
    · have g1:=zbn s (i+(Utf8.decode s i).2)
      rw[z3c h2] at h
      simp only at h
      split at h
      · simp only[Rd.ok.injEq] at h;omega
      · simp at h
    · rw[z29 (by omega)] at h;simp at h
  · exact zD131
 rw[h] at h1
 obtain⟨j,g1,g2,rfl⟩:=z5e s _ i r (zAj _) hi h1.1
 refine⟨hr,j,?_,g2,rfl⟩
 rcases Nat.lt_or_ge i j with h3|h3
 · exact h3
 · obtain rfl:i=j:=by omega
   exact absurd h1.2 (Nat.lt_irrefl _)
theorem z9j {sp:List Int} {l:List U}:z92 sp l≠.out:=by
 exact zD99
theorem zmw (r:Rg):∀ l:List Rg,(zhs r l).length=l.length+1
 | []=>rfl
 | x::l=>by rw[zhs];split <;> simp[zmw r l]
theorem zik:∀ (l acc:List Rg),(l.foldl (fun a r=>zhs r a) acc).length=l.length+acc.length
 | [],acc=>by simp
 | r::l,acc=>by rw[List.foldl_cons,zik l,zmw,zAk];omega
theorem zcm:∀ (l:List Rg) (p:Rg),(z8f p l).length≤l.length+1
 | [],p=>by simp[z8f]
 | r::l,p=>by
  rw[z8f];split
  · have:=zcm l (p.1,max p.2 r.2);simp only[zAk];omega
  · have:=zcm l r;simp only[zAk];omega
theorem zm0 (l:List Rg):(norm l).length≤l.length:=by
 have h:=zik l []
 rw[norm,y1l]
 cases hs:l.foldl (fun a r=>zhs r a) [] with
 | nil=>simp[zbw]
 | cons r q =>
  rw[hs] at h
  have:=zcm q r
  rw[zbw];simp at h;omega
theorem zo5 {l:List Rg} (h:∀ r∈l,0≤r.1∧r.1≤r.2∧r.2≤1114111):∀ r∈norm l,0≤r.1∧r.1≤1114111∧0≤r.2∧r.2≤1114111:=by
 obtain⟨h1,h2⟩:=zci (a:=0) fun r hr=>⟨(h r hr).1,(h r hr).2.1⟩
 intro r hr
 have hle:=y65.zdx h1 r hr
 have key:∀ c,inS (norm l) c→0≤c∧c≤1114111:=fun c hc=>by
  obtain⟨x,hx,h3,h4⟩:=(h2 c).1 hc
  have:=h x hx;omega
 have k1:=key r.1 ⟨r,hr,Int.le_refl _,hle⟩
 have k2:=key r.2 ⟨r,hr,hle,Int.le_refl _⟩
 omega
def zpp (b:Bool) (L:List U):Rd (List Rg)→Rd Rx
 | .out=>.out
 | .err a e=>.err a e
 | .ok rs l1=>if b=true then (if (y05 rs).length=0 then .err L 1 else .ok (zls (y05 rs)) l1) else .ok (zls (norm rs)) l1
theorem y5u {n:Nat} {l:List U} (h:nx l.tail=94):zgl n l=zpp true l (z3r n [] l.tail.tail):=by
 rw[zgl,zAz h]
 cases z3r n [] l.tail.tail <;> rfl
theorem y8c {n:Nat} {l:List U} (h:nx l.tail≠94):zgl n l=zpp false l (z3r n [] l.tail):=by
 rw[zgl,zAy h]
 cases z3r n [] l.tail <;> rfl
section
variable {X:Nat} (hX0:X≠700) (hX1:X≠701) (τ:Tab) (s:ByteArray) (hs:s.size≤1000000)
include hX0 hX1 hs
theorem y27 (n i:Nat) (hi:i≤s.size) (h91:nx (rst s i)=91) (hne:zgl n (rst s i)≠.out) (e0:Nat) :
 z0w Tryz.prog 208 [.ptr (e0,X) 0] (((e0,X),pbx s i 0 0)::zhr τ (e0+1)) [((e0,X),zov s (zgl n (rst s i)))] (z96 eX (eX zec) (zgl n (rst s i))):=by
 refine z10 fun H hH=>?_
 have hX:H e0 X=some (pbx s i 0 0):=hH ((e0,X),pbx s i 0 0) (by simp)
 have hT:HT τ (e0+1) H:=HT.of (bs:=[((e0,X),pbx s i 0 0)]) hH
 refine z08 Tryz.func208 (by kernel_rfl) rfl (by simp) ?_
 dsimp only[Tryz.f208]
 obtain⟨hlt,ht,he⟩:=z2e hi h91 (by decide) (by decide)
 have hn1:=z42 (X:=X) τ s (i+1) hlt 0 0 (e0+1)
 by_cases hng:nx (rst s (i+1))=94
 · obtain⟨hlt1,ht1,he1⟩:=z2e (i:=i+1) hlt hng (by decide) (by decide)
   have hq:zgl n (rst s i)=zpp true (rst s i) (z3r n [] (rst s (i+2))):=by rw[y5u (by rw[ht];exact hng),ht,ht1]
   have hj0:i+2≤s.size:=hlt1
   rw[hng] at hn1
   obtain⟨T,hT0⟩:∃ T,z3r n [] (rst s (i+2))=T:=⟨_,rfl⟩
   rw[hT0] at hq
   rw[hq] at hne ⊢
   repeat' (first|(apply z0i;(first|refine z2r (z02 _ (e0,X) _) ?_| refine z2r hX ?_))|(apply z03;(refine z0s hn1 (z07 (m:=(e0+1,X)) (z02 _ (e0,X) _) (bkT (by repeat (first|exact hT|refine HT.upd ?_ hX0 hX1)))) ?_))|(apply z0o;(first|refine z1r (raw':=pbx s ((i+2:Nat):Int) 0 0) (z02 _ (e0,X) _) ?_| refine z1r (raw':=pbx s ((i+1:Nat):Int) 0 0) hX ?_))|refine z05 ?_|fail)
   all_goals try (exfalso;omega)
   rw[z0a]
   refine z1t 6 1000 47 2 rfl rfl rfl ?_
   refine z0l ?_
   refine z01 (z0x (fun q:Nat × List Rg × Nat=>⟨108,[(0,.ptr (e0+1,X) 0),(2,.ptr (0,2) 0),(4,I .i64 (i:Nat)),(5,B true),(6,.ref (0,1000))],[(1000,.row 47 2 (q.2.1.map rgc)),(2,.box (z5v [Value.int .i64 0,Value.int .i64 0,Value.int .i64 0,z2w,z2w]))],upd H (e0,X) (pbx s (q.2.2:Nat) 0 0)⟩)
    (fun q=>q.2.2≤s.size∧q.2.1.length≤q.2.2∧(∀ r∈q.2.1,0≤r.1∧r.1≤r.2∧r.2≤1114111)∧z3r q.1 q.2.1 (rst s q.2.2)=T) (fun q=>q.1) ?_ (n,[],(i+2)) ⟨hj0,zAf _,by simp,hT0⟩) rfl rfl
   rintro⟨m,acc,j⟩ ⟨i1,i2,i3,i4⟩ ih
   simp only at i1 i2 i3 i4 ih ⊢
   cases m with
   | zero=>rw[z3r] at i4;subst i4;exact absurd rfl hne
   | succ m =>
   have hnj:=z42 (X:=X) τ s j i1 0 0 (e0+1)
   rw[z3r] at i4
   by_cases hend:acc≠[]∧nx (rst s j)=93
   · rw[zAz hend] at i4
     have hacc:(acc.length:Int)≠0:=by
      have:=List.length_pos_iff.2 hend.1;omega
     obtain⟨hjl,htj,hej⟩:=z2e i1 hend.2 (by decide) (by decide)
     rw[htj] at i4
     subst i4
     have hmg:=zmo acc (by omega) i3
     have hnl:=zm0 acc
     have hnr:=zo5 i3
     rw[hend.2] at hnj
     have ho:=zyf (norm acc) (by omega) hnr
     by_cases h0:(zpg 0 (norm acc)).length=0
     · rw[show zpp true (rst s i) (.ok acc (rst s (j+1)))=.err (rst s i) 1 by rw[zpp,zAz rfl,y05,zAz h0],z5j hi]
       have hf:=z5p (X:=X) s (I .i64 ((j+1:Nat):Int)) (i:Nat) 1 (e0+1) (by decide)
       repeat' (first|(apply z0i;(refine z2r (z02 _ (e0,X) _) ?_))|(apply z03;(first|refine z2x hf rfl (z02 _ (e0,X) _) (by decide) ?_|refine z0s hnj (z07 (m:=(e0+1,X)) (z02 _ (e0,X) _) (bkT (by repeat (first|exact hT|refine HT.upd ?_ hX0 hX1)))) ?_| refine z3v hmg ?_| refine z1i ho ?_))|(apply z0o;(refine z1r (raw':=pbx s ((j+1:Nat):Int) 0 0) (z02 _ (e0,X) _) ?_))|refine z05 ?_|refine fk (fun _=>?_) (fun _=>?_))
       all_goals try (exfalso;omega)
       all_goals ((repeat rw[z0a]);refine z4r wkP ?_;first|exact z00 Tryz.func208 _ (z04 rfl rfl rfl rfl rfl rfl rfl) ⟨rfl,rfl⟩|exact z00 Tryz.func208 _ z0z ⟨rfl,rfl⟩|exact z00 Tryz.func208 _ z11 ⟨rfl,rfl⟩|exact z00 Tryz.func208 _ z1h ⟨rfl,rfl⟩)
     · rw[show zpp true (rst s i) (.ok acc (rst s (j+1)))=.ok (zls (y05 acc)) (rst s (j+1)) by rw[zpp,zAz rfl];rw[y05,zAy h0],z3u hjl]
       repeat' (first|(apply z0i;(refine z2r (z02 _ (e0,X) _) ?_))|(apply z03;(first|refine z0s hnj (z07 (m:=(e0+1,X)) (z02 _ (e0,X) _) (bkT (by repeat (first|exact hT|refine HT.upd ?_ hX0 hX1)))) ?_| refine z3v hmg ?_| refine z1i ho ?_))|(apply z0o;(refine z1r (raw':=pbx s ((j+1:Nat):Int) 0 0) (z02 _ (e0,X) _) ?_))|refine z05 ?_|refine fk (fun _=>?_) (fun _=>?_))
       all_goals exact zD81
   · exact zD1
 · have hq:zgl n (rst s i)=zpp false (rst s i) (z3r n [] (rst s (i+1))):=by rw[y8c (by rw[ht];exact hng),ht]
   have hj0:i+1≤s.size:=hlt
   obtain⟨T,hT0⟩:∃ T,z3r n [] (rst s (i+1))=T:=⟨_,rfl⟩
   rw[hT0] at hq
   rw[hq] at hne ⊢
   repeat' (first|(apply z0i;(first|refine z2r (z02 _ (e0,X) _) ?_| refine z2r hX ?_))|(apply z03;(refine z0s hn1 (z07 (m:=(e0+1,X)) (z02 _ (e0,X) _) (bkT (by repeat (first|exact hT|refine HT.upd ?_ hX0 hX1)))) ?_))|(apply z0o;(first|refine z1r (raw':=pbx s ((i+2:Nat):Int) 0 0) (z02 _ (e0,X) _) ?_| refine z1r (raw':=pbx s ((i+1:Nat):Int) 0 0) hX ?_))|refine z05 ?_|refine fk (fun _=>?_) (fun _=>?_))
   all_goals try (exfalso;omega)
   rw[zAo hng]
   refine z1t 6 1000 47 2 rfl rfl rfl ?_
   refine z0l ?_
   refine z01 (z0x (fun q:Nat × List Rg × Nat=>⟨108,[(0,.ptr (e0+1,X) 0),(2,.ptr (0,2) 0),(4,I .i64 (i:Nat)),(5,B false),(6,.ref (0,1000))],[(1000,.row 47 2 (q.2.1.map rgc)),(2,.box (z5v [Value.int .i64 0,Value.int .i64 0,Value.int .i64 0,z2w,z2w]))],upd H (e0,X) (pbx s (q.2.2:Nat) 0 0)⟩)
    (fun q=>q.2.2≤s.size∧q.2.1.length≤q.2.2∧(∀ r∈q.2.1,0≤r.1∧r.1≤r.2∧r.2≤1114111)∧z3r q.1 q.2.1 (rst s q.2.2)=T) (fun q=>q.1) ?_ (n,[],(i+1)) ⟨hj0,zAf _,by simp,hT0⟩) rfl rfl
   rintro⟨m,acc,j⟩ ⟨i1,i2,i3,i4⟩ ih
   simp only at i1 i2 i3 i4 ih ⊢
   cases m with
   | zero=>rw[z3r] at i4;subst i4;exact absurd rfl hne
   | succ m =>
   have hnj:=z42 (X:=X) τ s j i1 0 0 (e0+1)
   rw[z3r] at i4
   by_cases hend:acc≠[]∧nx (rst s j)=93
   · rw[zAz hend] at i4
     have hacc:(acc.length:Int)≠0:=by
      have:=List.length_pos_iff.2 hend.1;omega
     obtain⟨hjl,htj,hej⟩:=z2e i1 hend.2 (by decide) (by decide)
     rw[htj] at i4
     subst i4
     have hmg:=zmo acc (by omega) i3
     have hnl:=zm0 acc
     have hnr:=zo5 i3
     rw[hend.2] at hnj
     rw[show zpp false (rst s i) (.ok acc (rst s (j+1)))=.ok (zls (norm acc)) (rst s (j+1)) from rfl,z3u hjl]
     repeat' (first|(apply z0i;(refine z2r (z02 _ (e0,X) _) ?_))|(apply z03;(first|refine z0s hnj (z07 (m:=(e0+1,X)) (z02 _ (e0,X) _) (bkT (by repeat (first|exact hT|refine HT.upd ?_ hX0 hX1)))) ?_| refine z3v hmg ?_))|(apply z0o;(refine z1r (raw':=pbx s ((j+1:Nat):Int) 0 0) (z02 _ (e0,X) _) ?_))|refine z05 ?_|refine fk (fun _=>?_) (fun _=>?_))
     all_goals exact zD81
   · exact zD1
end
end Go.Proofs.YtmcggompdmngmaaGreatDoor
