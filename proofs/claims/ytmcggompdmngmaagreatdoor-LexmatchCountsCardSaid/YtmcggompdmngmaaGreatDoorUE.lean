/- A part of the proof: G7 to Shs. -/
import Derived.Test.YtmcggompdmngmaaGreatDoorUc
import Derived.Test.YtmcggompdmngmaaGreatDoorUs
import Derived.Shelf.SlSortCmp.NoneTotal
import Derived.Test.YtmcggompdmngmaaGreatDoorProg
import Derived.Test.YtmcggompdmngmaaGreatDoorUx
import Derived.Test.YtmcggompdmngmaaGreatDoorUr
set_option linter.all false
namespace Go.Proofs.YtmcggompdmngmaaGreatDoor
open Go.Ab Go.Rx
set_option maxHeartbeats 20000000
set_option maxRecDepth 100000
attribute [local irreducible] Run Ops Op1 z15 Val Tr z0d z0y NF Rel z2a z29
abbrev eRg (c:Int):D:=.lit (.int .i32 c)
abbrev eN (c:Int):D:=.lit (.int .i64 c)
section
variable {X:Nat} (hX0:X≠700) (hX1:X≠701) (τ:Tab) (s:ByteArray) (hs:s.size≤1000000)
include hX0 hX1 hs
theorem y0v {sp:List Int} (hsp:Sp sp) (i:Nat) (hi:i≤s.size) (h0:0≤nx (rst s i)) (hok:nx (rst s i)=92∨sp.contains (nx (rst s i))=false) (e0:Nat) :
 z0y Tryz.prog 210 [.ptr (e0,X) 0,S (spB sp)] (((e0,X),pbx s i 0 0)::zew τ (e0+1)) [((e0,X),zpl s (z9d sp (rst s i)))] (z9f eRg (eRg 0) (z9d sp (rst s i))):=by
 refine z11 fun H hH=>?_
 have hX:H e0 X=some (pbx s i 0 0):=hH ((e0,X),pbx s i 0 0) (by simp)
 have hT:HT τ (e0+1) H:=HT.of (bs:=[((e0,X),pbx s i 0 0)]) hH
 refine z0a Tryz.func210 (by kernel_rfl) rfl (by simp) ?_
 dsimp only[Tryz.f210]
 have hlt:=y2t hi h0
 have hn:=z47 (X:=X) τ s i hi 0 0 (e0+1)
 by_cases hc:nx (rst s i)=92
 · obtain⟨_,ht,he⟩:=z2h hi hc (by decide) (by decide)
   have hn1:=z47 (X:=X) τ s (i+1) hlt 0 0 (e0+1)
   have hf:=z5q (X:=X) s (I .i64 ((i+1:Nat):Int)) ((i+1:Nat):Int) 3 (e0+1) (by decide)
   rw[he,z3u,zAz rfl]
   by_cases hl1:i+1<s.size
   · have hr:=zms s (i+1)
     have hcr:=z5z hsp (nx (rst s (i+1))) hr.1 hr.2
     have e1:=z2z hl1
     have hx1:=zbs hl1
     have hsk:=y0m (X:=X) τ s (i+1) hl1 hs 0 0 (e0+1)
     have hw:=z5m s (i+1) hl1
     generalize hq:nx (rst s (i+1))=q at *
     rw[e1]
     simp only
     rw[← hx1]
     cases hcc:sp.contains q with
     | true =>
      rw[hcc] at hcr
      rw[zAz rfl,z3w (by omega)]
      repeat' (first|(apply z0f;(first|refine z2q (z02 _ (e0,X) _) ?_| refine z2q hX ?_))|(apply z03;(first|refine z1y hsk (z02 _ (e0,X) _) (bkT (by repeat (first|exact hT|refine HT.upd ?_ hX0 hX1))) ?_| refine z2y hf rfl (z02 _ (e0,X) _) (by decide) ?_|refine z0p hn1 (z09 (m:=(e0+1,X)) (z02 _ (e0,X) _) (bkT (by repeat (first|exact hT|refine HT.upd ?_ hX0 hX1)))) ?_| refine z0p hn (z09 (m:=(e0+1,X)) hX (bkT (by repeat (first|exact hT|refine HT.upd ?_ hX0 hX1)))) ?_| refine z1i hcr ?_))|(apply z0n;(refine z1u (raw':=pbx s ((i+1:Nat):Int) 0 0) hX ?_))|refine z05 ?_|refine fk (fun _=>?_) (fun _=>?_))
      all_goals exact zD97
     | false =>
      rw[hcc] at hcr
      rw[zAy (by simp),hx1,← e1,z5f (by omega)]
      repeat' (first|(apply z0f;(first|refine z2q (z02 _ (e0,X) _) ?_| refine z2q hX ?_))|(apply z03;(first|refine z2y hf rfl (z02 _ (e0,X) _) (by decide) ?_|refine z0p hn1 (z09 (m:=(e0+1,X)) (z02 _ (e0,X) _) (bkT (by repeat (first|exact hT|refine HT.upd ?_ hX0 hX1)))) ?_| refine z0p hn (z09 (m:=(e0+1,X)) hX (bkT (by repeat (first|exact hT|refine HT.upd ?_ hX0 hX1)))) ?_| refine z1i hcr ?_))|(apply z0n;(refine z1u (raw':=pbx s ((i+1:Nat):Int) 0 0) hX ?_))|refine z05 ?_|refine fk (fun _=>?_) (fun _=>?_))
      all_goals exact zD89
   · have e1:=z1w (s:=s) (i:=i+1) (by omega)
     have hx1:nx (rst s (i+1))=-1:=by rw[e1];rfl
     rw[e1]
     simp only
     rw[← e1,z5f (by omega)]
     rw[hx1] at hn1
     repeat' (first|(apply z0f;(first|refine z2q (z02 _ (e0,X) _) ?_| refine z2q hX ?_))|(apply z03;(first|refine z2y hf rfl (z02 _ (e0,X) _) (by decide) ?_|refine z0p hn1 (z09 (m:=(e0+1,X)) (z02 _ (e0,X) _) (bkT (by repeat (first|exact hT|refine HT.upd ?_ hX0 hX1)))) ?_| refine z0p hn (z09 (m:=(e0+1,X)) hX (bkT (by repeat (first|exact hT|refine HT.upd ?_ hX0 hX1)))) ?_))|(apply z0n;(refine z1u (raw':=pbx s ((i+1:Nat):Int) 0 0) hX ?_))|refine z05 ?_|refine fk (fun _=>?_) (fun _=>?_))
     all_goals exact zD89
 · have hok':=hok.resolve_left hc
   have e0':=z2z hlt
   have hx:=zbs hlt
   have hw:=z5m s i hlt
   have hsk:=y0m (X:=X) τ s i hlt hs 0 0 (e0+1)
   generalize hq:nx (rst s i)=q at *
   rw[e0',z3u]
   simp only
   rw[← hx,zAy hc,zAy (by rw[hok'];decide),z3w (by omega)]
   repeat' (first|(apply z0f;(refine z2q hX ?_))|(apply z03;(first|refine z1y hsk hX (bkT (by repeat (first|exact hT|refine HT.upd ?_ hX0 hX1))) ?_| refine z0p hn (z09 (m:=(e0+1,X)) hX (bkT (by repeat (first|exact hT|refine HT.upd ?_ hX0 hX1)))) ?_))|refine z05 ?_|refine fk (fun _=>?_) (fun _=>?_))
   all_goals exact zD97
end
theorem y7d {c:Int} (h:dgt c=true):48≤c∧c≤57:=by simpa[dgt] using h
theorem zcf {k c:Int} {n:Nat} {l:List U}:zed k (⟨c,n⟩::l)=if dgt c=false then .err (⟨c,n⟩::l) 3
 else if 0<c-48∧l=[] then .err [] 3
 else if 0<c-48∧dgt (nx l)=true then
  (if 16<10*(c-48)+(nx l-48)∨10*(c-48)+(nx l-48)<k then .err (⟨c,n⟩::l) 8 else .ok (10*(c-48)+(nx l-48)) l.tail)
 else if 16<c-48∨c-48<k then .err (⟨c,n⟩::l) 8 else .ok (c-48) l:=rfl
section
variable {X:Nat} (hX0:X≠700) (hX1:X≠701) (τ:Tab) (s:ByteArray) (hs:s.size≤1000000)
include hX0 hX1 hs
theorem zcl (i:Nat) (hi:i≤s.size) (e0:Nat) :
 z0y Tryz.prog 214 [.ptr (e0,X) 0] (((e0,X),pbx s i 0 0)::zew τ (e0+1)) [((e0,X),zpl s (z9d spC (rst s i)))] (z9f eRg (eRg 0) (z9d spC (rst s i))):=by
 refine z11 fun H hH=>?_
 have hX:H e0 X=some (pbx s i 0 0):=hH ((e0,X),pbx s i 0 0) (by simp)
 have hT:HT τ (e0+1) H:=HT.of (bs:=[((e0,X),pbx s i 0 0)]) hH
 refine z0a Tryz.func214 (by kernel_rfl) rfl (by simp) ?_
 dsimp only[Tryz.f214]
 have hn:=z47 (X:=X) τ s i hi 0 0 (e0+1)
 have hf:=z5q (X:=X) s (I .i64 i) i 3 (e0+1) (by decide)
 have hr:=zms s i
 have hcr:=z5z yap (nx (rst s i)) hr.1 hr.2
 by_cases hlt:i<s.size
 · have hx:=zbs hlt
   have e1:=z2z hlt
   by_cases hc:nx (rst s i)=92∨spC.contains (nx (rst s i))=false
   · have hch:=y0v hX0 hX1 τ s hs yap i hi (by rw[hx];omega) hc (e0+1)
     have h0:0≤nx (rst s i):=by rw[hx];omega
     rcases hp:z9d spC (rst s i) with ⟨c,r⟩|⟨a,e⟩|_
     · exact zD134
     · exact zD134
     · exfalso
       have:=hp
       rw[e1,z3u] at this
       split at this
       · split at this
         · simp at this
         · split at this <;> simp at this
       · split at this <;> simp at this
   · have h1:nx (rst s i)≠92:=fun h=>hc (.inl h)
     have h2:spC.contains (nx (rst s i))=true:=by
      cases h:spC.contains (nx (rst s i)) with
      | true=>rfl
      | false=>exact absurd (.inr h) hc
     rw[h2] at hcr
     have h0:0≤nx (rst s i):=by rw[hx];omega
     have hp:z9d spC (rst s i)=.err (rst s i) 3:=by
      rw[e1,z3u]
      simp only
      rw[← hx,zAy h1,zAz h2]
     rw[hp,z5f hi]
     repeat' (first|(apply z0f;(refine z2q hX ?_))|(apply z03;(first|refine z2y hf rfl hX (by decide) ?_|refine z0p hn (z09 (m:=(e0+1,X)) hX (bkT (by repeat (first|exact hT|refine HT.upd ?_ hX0 hX1)))) ?_| refine z1i hcr ?_))|refine z05 ?_|refine fk (fun _=>?_) (fun _=>?_))
     all_goals exact zD90
 · have e1:=z1w (s:=s) (i:=i) (by omega)
   have hp:z9d spC (rst s i)=.err (rst s i) 3:=by rw[e1];rfl
   have hx:nx (rst s i)=-1:=by rw[e1];rfl
   rw[hp,z5f hi]
   rw[hx] at hn
   repeat' (first|(apply z0f;(refine z2q hX ?_))|(apply z03;(first|refine z2y hf rfl hX (by decide) ?_|refine z0p hn (z09 (m:=(e0+1,X)) hX (bkT (by repeat (first|exact hT|refine HT.upd ?_ hX0 hX1)))) ?_))|refine z05 ?_|fail)
   all_goals exact zD90
theorem zod (k:Int) (hk0:0≤k) (hk:k≤16) (i:Nat) (hi:i≤s.size) (e0:Nat) :
 z0y Tryz.prog 211 [.ptr (e0,X) 0,I .i64 k] (((e0,X),pbx s i 0 0)::zew τ (e0+1)) [((e0,X),zpl s (zed k (rst s i)))] (z9f eN (eN 0) (zed k (rst s i))):=by
 refine z11 fun H hH=>?_
 have hX:H e0 X=some (pbx s i 0 0):=hH ((e0,X),pbx s i 0 0) (by simp)
 have hT:HT τ (e0+1) H:=HT.of (bs:=[((e0,X),pbx s i 0 0)]) hH
 refine z0a Tryz.func211 (by kernel_rfl) rfl (by simp) ?_
 dsimp only[Tryz.f211]
 have hn:=z47 (X:=X) τ s i hi 0 0 (e0+1)
 have hf:=z5q (X:=X) s (I .i64 i) i 3 (e0+1) (by decide)
 have hd:=zr7 (nx (rst s i))
 cases hg:dgt (nx (rst s i)) with
 | false =>
  rw[hg] at hd
  have hp:zed k (rst s i)=.err (rst s i) 3:=by
   by_cases hlt:i<s.size
   · have hx:=zbs hlt
     have e1:=z2z hlt
     rw[e1,zcf,← hx,zAz hg]
   · rw[z1w (by omega)];rfl
  rw[hp,z5f hi]
  repeat' (first|(apply z0f;(refine z2q hX ?_))|(apply z03;(first|refine z2y hf rfl hX (by decide) ?_|refine z0p hn (z09 (m:=(e0+1,X)) hX (bkT (by repeat (first|exact hT|refine HT.upd ?_ hX0 hX1)))) ?_| refine z1i hd ?_))|refine z05 ?_|fail)
  all_goals exact zD42
 | true =>
  rw[hg] at hd
  obtain⟨hc0,hc1⟩:=y7d hg
  obtain⟨hlt,ht,he⟩:=z2h hi rfl (by omega) (by omega)
  generalize hc:nx (rst s i)=c at *
  have hn1:=z47 (X:=X) τ s (i+1) hlt 0 0 (e0+1)
  have hd1:=zr7 (nx (rst s (i+1)))
  have hf1:=z5q (X:=X) s (I .i64 ((i+1:Nat):Int)) ((i+1:Nat):Int) 3 (e0+1) (by decide)
  have hf2:=z5q (X:=X) s (I .i64 ((i+1:Nat):Int)) i 8 (e0+1) (by decide)
  have hf3:=z5q (X:=X) s (I .i64 ((i+2:Nat):Int)) i 8 (e0+1) (by decide)
  have hnil:=zrw (s:=s) (i:=i+1) hlt
  have hbe:=z5f (α:=Int) (s:=s) (e:=8) hi
  rw[he] at hbe
  rw[he,zcf,zAy (by rw[hg];decide)]
  by_cases hA:0<c-48∧i+1=s.size
  · rw[zAz ⟨hA.1,hnil.2 hA.2⟩,← hnil.2 hA.2,z5f hlt]
    repeat' (first|(apply z0f;(first|refine z2q (z02 _ (e0,X) _) ?_| refine z2q hX ?_))|(apply z0g;(refine z52 (z02 _ (e0,X) _) ?_))|(apply z0x;(refine z0b (z1h (zak (by omega) (by omega))) rfl rfl ?_))|(apply z03;(first|refine z2y hf1 rfl (z02 _ (e0,X) _) (by decide) ?_|refine z0p hn1 (z09 (m:=(e0+1,X)) (z02 _ (e0,X) _) (bkT (by repeat (first|exact hT|refine HT.upd ?_ hX0 hX1)))) ?_| refine z0p hn (z09 (m:=(e0+1,X)) hX (bkT (by repeat (first|exact hT|refine HT.upd ?_ hX0 hX1)))) ?_| refine z1i hd ?_))|(apply z0n;(refine z1u (raw':=pbx s ((i+1:Nat):Int) 0 0) hX ?_))|refine z05 ?_|refine fk (fun _=>?_) (fun _=>?_)|(refine z1d (fun hg=>?_) (fun hg=>?_)<;> simp only[hg] <;> (try simp only[zA3,zA5,zA6,zA8] at hg)))
    all_goals exact zD42
  · rw[zAy (fun h=>hA ⟨h.1,hnil.1 h.2⟩)]
    by_cases hB:0<c-48∧dgt (nx (rst s (i+1)))=true
    · rw[zAz hB]
      rw[hB.2] at hd1
      obtain⟨hc2,hc3⟩:=y7d hB.2
      obtain⟨hlt1,ht1,he1⟩:=z2h (i:=i+1) hlt rfl (by omega) (by omega)
      rw[ht1]
      generalize hc':nx (rst s (i+1))=c' at *
      have hB1:=hB.1
      have hpos:i+1<s.size:=hlt1
      by_cases hC:16<10*(c-48)+(c'-48)∨10*(c-48)+(c'-48)<k
      · rw[zAz hC,hbe]
        repeat' (first|(apply z0f;(first|refine z2q (z02 _ (e0,X) _) ?_| refine z2q hX ?_))|(apply z0g;(refine z52 (z02 _ (e0,X) _) ?_))|(apply z0x;(refine z0b (z1h (zak (by omega) (by omega))) rfl rfl ?_))|(apply z03;(first|refine z2y hf3 rfl (z02 _ (e0,X) _) (by decide) ?_|refine z0p hn1 (z09 (m:=(e0+1,X)) (z02 _ (e0,X) _) (bkT (by repeat (first|exact hT|refine HT.upd ?_ hX0 hX1)))) ?_| refine z0p hn (z09 (m:=(e0+1,X)) hX (bkT (by repeat (first|exact hT|refine HT.upd ?_ hX0 hX1)))) ?_| refine z1i hd ?_| refine z1i hd1 ?_))|(apply z0n;(first|refine z1u (raw':=pbx s ((i+2:Nat):Int) 0 0) (z02 _ (e0,X) _) ?_| refine z1u (raw':=pbx s ((i+1:Nat):Int) 0 0) hX ?_))|refine z05 ?_|refine fk (fun _=>?_) (fun _=>?_)|(refine z1d (fun hg=>?_) (fun hg=>?_)<;> simp only[hg] <;> (try simp only[zA3,zA5,zA6,zA8] at hg)))
        all_goals exact zD42
      · rw[zAy hC,z3w (by omega)]
        repeat' (first|(apply z0f;(first|refine z2q (z02 _ (e0,X) _) ?_| refine z2q hX ?_))|(apply z0g;(refine z52 (z02 _ (e0,X) _) ?_))|(apply z0x;(refine z0b (z1h (zak (by omega) (by omega))) rfl rfl ?_))|(apply z03;(first|refine z2y hf3 rfl (z02 _ (e0,X) _) (by decide) ?_|refine z0p hn1 (z09 (m:=(e0+1,X)) (z02 _ (e0,X) _) (bkT (by repeat (first|exact hT|refine HT.upd ?_ hX0 hX1)))) ?_| refine z0p hn (z09 (m:=(e0+1,X)) hX (bkT (by repeat (first|exact hT|refine HT.upd ?_ hX0 hX1)))) ?_| refine z1i hd ?_| refine z1i hd1 ?_))|(apply z0n;(first|refine z1u (raw':=pbx s ((i+2:Nat):Int) 0 0) (z02 _ (e0,X) _) ?_| refine z1u (raw':=pbx s ((i+1:Nat):Int) 0 0) hX ?_))|refine z05 ?_|refine fk (fun _=>?_) (fun _=>?_)|(refine z1d (fun hg=>?_) (fun hg=>?_)<;> simp only[hg] <;> (try simp only[zA3,zA5,zA6,zA8] at hg)))
        all_goals try (exfalso;omega)
        all_goals ((repeat rw[z0c]);first|exact z00 Tryz.func211 _ (z04 rfl rfl rfl rfl rfl rfl rfl) ⟨rfl,rfl⟩|exact z00 Tryz.func211 _ z0s ⟨rfl,rfl⟩|exact z00 Tryz.func211 _ z13 ⟨rfl,rfl⟩|exact z00 Tryz.func211 _ z1m ⟨rfl,rfl⟩)
    · rw[zAy hB]
      have hdf:0<c-48→dgt (nx (rst s (i+1)))=false:=fun h=>by
       cases h2:dgt (nx (rst s (i+1))) with
       | false=>rfl
       | true=>exact absurd ⟨h,h2⟩ hB
      have hlx:0<c-48→i+1<s.size:=fun h=>by
       false_or_by_contra
       exact hA ⟨h,by omega⟩
      by_cases hC:16<c-48∨c-48<k
      · rw[zAz hC,hbe]
        by_cases hz:0<c-48
        · have hdf:=hdf hz
          have hlx:=hlx hz
          rw[hdf] at hd1
          all_goals exact zD15
        · all_goals exact zD15
      · rw[zAy hC,z3w (by omega)]
        by_cases hz:0<c-48
        · have hdf:=hdf hz
          have hlx:=hlx hz
          rw[hdf] at hd1
          all_goals exact zD16
        · all_goals exact zD16
end
theorem zm5 {k v:Int} {l r:List U} (h:zed k l=.ok v r):k≤v∧v≤16:=by
 cases l with
 | nil=>simp[zed] at h
 | cons u l =>
  obtain⟨c,n⟩:=u
  rw[zcf] at h
  split at h
  · simp at h
  split at h
  · simp at h
  split at h
  · exact zD144
  · exact zD144
theorem zn1 {k:Int} {l:List U}:zed k l≠.out:=by
 intro h
 cases l with
 | nil=>simp[zed] at h
 | cons u l =>
  obtain⟨c,n⟩:=u
  rw[zcf] at h
  exact zD148
def rsB:Rd (Int × Int)→PV
 | .ok a _=>.tup [I .i64 a.1,I .i64 a.2,B true]
 | .err _ _=>.tup [I .i64 0,I .i64 0,B false]
 | .out=>.any
theorem zso {k v:Int} {s:ByteArray} {i:Nat} {r:List U} (hi:i≤s.size) (h:zed k (rst s i)=.ok v r):∃ j,i≤j∧j≤s.size∧r=rst s j:=by
 have h1:=(zfy k (rst s i)).1
 rw[h] at h1
 exact z5k s _ i r (zAj _) hi h1
section
variable {X:Nat} (hX0:X≠700) (hX1:X≠701) (τ:Tab) (s:ByteArray) (hs:s.size≤1000000)
include hX0 hX1 hs
theorem zn2 (i:Nat) (hi:i≤s.size) (e0:Nat) :
 z0y Tryz.prog 197 [.ptr (e0,X) 0] (((e0,X),pbx s i 0 0)::zew τ (e0+1)) [((e0,X),zpl s (z9g (rst s i)))] (rsB (z9g (rst s i))):=by
 refine z11 fun H hH=>?_
 have hX:H e0 X=some (pbx s i 0 0):=hH ((e0,X),pbx s i 0 0) (by simp)
 have hT:HT τ (e0+1) H:=HT.of (bs:=[((e0,X),pbx s i 0 0)]) hH
 refine z0a Tryz.func197 (by kernel_rfl) rfl (by simp) ?_
 dsimp only[Tryz.f197]
 have hm:=zod hX0 hX1 τ s hs 0 (by decide) (by decide) i hi (e0+1)
 rcases hp:zed 0 (rst s i) with ⟨lo,r⟩|⟨a,e⟩|_
 · obtain⟨j,hj1,hj,rfl⟩:=zso hi hp
   have hlo:=zm5 hp
   rw[hp,z3w hj] at hm
   have hn:=z47 (X:=X) τ s j hj 0 0 (e0+1)
   by_cases hc:nx (rst s j)=44
   · obtain⟨hjl,ht,he⟩:=z2h hj hc (by decide) (by decide)
     have hn1:=z47 (X:=X) τ s (j+1) hjl 0 0 (e0+1)
     by_cases h2:nx (rst s (j+1))=125
     · have hq:z9g (rst s i)=.ok (lo,-1) (rst s (j+1)):=by
        rw[z9g,hp];simp only
        rw[zAz hc,ht,zAz h2,zeu,zAz h2]
       rw[hq,z3w hjl]
       repeat' (first|(apply z0f;(refine z2q (z02 _ (e0,X) _) ?_))|(apply z03;(first|refine z1y hm hX (bkT (by repeat (first|exact hT|refine HT.upd ?_ hX0 hX1))) ?_| refine z0p hn1 (z09 (m:=(e0+1,X)) (z02 _ (e0,X) _) (bkT (by repeat (first|exact hT|refine HT.upd ?_ hX0 hX1)))) ?_| refine z0p hn (z09 (m:=(e0+1,X)) (z02 _ (e0,X) _) (bkT (by repeat (first|exact hT|refine HT.upd ?_ hX0 hX1)))) ?_))|(apply z0n;(refine z1u (raw':=pbx s ((j+1:Nat):Int) 0 0) (z02 _ (e0,X) _) ?_))|refine z05 ?_|refine fk (fun _=>?_) (fun _=>?_))
       all_goals exact zD20
     · have hm2:=zod hX0 hX1 τ s hs lo hlo.1 hlo.2 (j+1) hjl (e0+1)
       rcases hp2:zed lo (rst s (j+1)) with ⟨hi',r⟩|⟨a,e⟩|_
       · obtain⟨m,hm1,hmm,rfl⟩:=zso (by omega) hp2
         have hhi:=zm5 hp2
         rw[hp2,z3w hmm] at hm2
         have hn2:=z47 (X:=X) τ s m hmm 0 0 (e0+1)
         have hf:=z5q (X:=X) s (I .i64 (m:Nat)) (m:Nat) 3 (e0+1) (by decide)
         have hq:z9g (rst s i)=zeu lo hi' (rst s m):=by
          rw[z9g,hp];simp only
          rw[zAz hc,ht,zAy h2,hp2]
         rw[hq,zeu]
         by_cases h3:nx (rst s m)=125
         · rw[zAz h3,z3w hmm]
           repeat' (first|(apply z0f;(refine z2q (z02 _ (e0,X) _) ?_))|(apply z03;(first|refine z2y hf rfl (z02 _ (e0,X) _) (by decide) ?_|refine z1y hm2 (z02 _ (e0,X) _) (bkT (by repeat (first|exact hT|refine HT.upd ?_ hX0 hX1))) ?_| refine z1y hm hX (bkT (by repeat (first|exact hT|refine HT.upd ?_ hX0 hX1))) ?_| refine z0p hn2 (z09 (m:=(e0+1,X)) (z02 _ (e0,X) _) (bkT (by repeat (first|exact hT|refine HT.upd ?_ hX0 hX1)))) ?_| refine z0p hn1 (z09 (m:=(e0+1,X)) (z02 _ (e0,X) _) (bkT (by repeat (first|exact hT|refine HT.upd ?_ hX0 hX1)))) ?_| refine z0p hn (z09 (m:=(e0+1,X)) (z02 _ (e0,X) _) (bkT (by repeat (first|exact hT|refine HT.upd ?_ hX0 hX1)))) ?_))|(apply z0n;(refine z1u (raw':=pbx s ((j+1:Nat):Int) 0 0) (z02 _ (e0,X) _) ?_))|refine z05 ?_|refine fk (fun _=>?_) (fun _=>?_))
           all_goals exact zD20
         · rw[zAy h3,z5f hmm]
           repeat' (first|(apply z0f;(refine z2q (z02 _ (e0,X) _) ?_))|(apply z03;(first|refine z2y hf rfl (z02 _ (e0,X) _) (by decide) ?_|refine z1y hm2 (z02 _ (e0,X) _) (bkT (by repeat (first|exact hT|refine HT.upd ?_ hX0 hX1))) ?_| refine z1y hm hX (bkT (by repeat (first|exact hT|refine HT.upd ?_ hX0 hX1))) ?_| refine z0p hn2 (z09 (m:=(e0+1,X)) (z02 _ (e0,X) _) (bkT (by repeat (first|exact hT|refine HT.upd ?_ hX0 hX1)))) ?_| refine z0p hn1 (z09 (m:=(e0+1,X)) (z02 _ (e0,X) _) (bkT (by repeat (first|exact hT|refine HT.upd ?_ hX0 hX1)))) ?_| refine z0p hn (z09 (m:=(e0+1,X)) (z02 _ (e0,X) _) (bkT (by repeat (first|exact hT|refine HT.upd ?_ hX0 hX1)))) ?_))|(apply z0n;(refine z1u (raw':=pbx s ((j+1:Nat):Int) 0 0) (z02 _ (e0,X) _) ?_))|refine z05 ?_|refine fk (fun _=>?_) (fun _=>?_))
           all_goals exact zD88
       · rw[hp2] at hm2
         have hq:z9g (rst s i)=.err a e:=by
          rw[z9g,hp];simp only
          rw[zAz hc,ht,zAy h2,hp2]
         rw[hq]
         repeat' (first|(apply z0f;(refine z2q (z02 _ (e0,X) _) ?_))|(apply z03;(first|refine z1y hm2 (z02 _ (e0,X) _) (bkT (by repeat (first|exact hT|refine HT.upd ?_ hX0 hX1))) ?_| refine z1y hm hX (bkT (by repeat (first|exact hT|refine HT.upd ?_ hX0 hX1))) ?_| refine z0p hn1 (z09 (m:=(e0+1,X)) (z02 _ (e0,X) _) (bkT (by repeat (first|exact hT|refine HT.upd ?_ hX0 hX1)))) ?_| refine z0p hn (z09 (m:=(e0+1,X)) (z02 _ (e0,X) _) (bkT (by repeat (first|exact hT|refine HT.upd ?_ hX0 hX1)))) ?_))|(apply z0n;(refine z1u (raw':=pbx s ((j+1:Nat):Int) 0 0) (z02 _ (e0,X) _) ?_))|refine z05 ?_|refine fk (fun _=>?_) (fun _=>?_))
         all_goals exact zD20
       · exact absurd hp2 zn1
   · have hf:=z5q (X:=X) s (I .i64 (j:Nat)) (j:Nat) 3 (e0+1) (by decide)
     have hq:z9g (rst s i)=zeu lo lo (rst s j):=by
      rw[z9g,hp];simp only
      rw[zAy hc]
     rw[hq,zeu]
     by_cases h3:nx (rst s j)=125
     · rw[zAz h3,z3w hj]
       repeat' (first|(apply z0f;(refine z2q (z02 _ (e0,X) _) ?_))|(apply z03;(first|refine z2y hf rfl (z02 _ (e0,X) _) (by decide) ?_|refine z1y hm hX (bkT (by repeat (first|exact hT|refine HT.upd ?_ hX0 hX1))) ?_| refine z0p hn (z09 (m:=(e0+1,X)) (z02 _ (e0,X) _) (bkT (by repeat (first|exact hT|refine HT.upd ?_ hX0 hX1)))) ?_))|refine z05 ?_|refine fk (fun _=>?_) (fun _=>?_))
       all_goals exact zD20
     · rw[zAy h3,z5f hj]
       repeat' (first|(apply z0f;(refine z2q (z02 _ (e0,X) _) ?_))|(apply z03;(first|refine z2y hf rfl (z02 _ (e0,X) _) (by decide) ?_|refine z1y hm hX (bkT (by repeat (first|exact hT|refine HT.upd ?_ hX0 hX1))) ?_| refine z0p hn (z09 (m:=(e0+1,X)) (z02 _ (e0,X) _) (bkT (by repeat (first|exact hT|refine HT.upd ?_ hX0 hX1)))) ?_))|refine z05 ?_|refine fk (fun _=>?_) (fun _=>?_))
       all_goals exact zD88
 · rw[hp] at hm
   have hq:z9g (rst s i)=.err a e:=by
    rw[z9g,hp]
   rw[hq]
   repeat' (first|(apply z03;(refine z1y hm hX (bkT (by repeat (first|exact hT|refine HT.upd ?_ hX0 hX1))) ?_))|refine z05 ?_|fail)
   all_goals exact zD20
 · exact absurd hp zn1
end
end Go.Proofs.YtmcggompdmngmaaGreatDoor
namespace Go.Proofs.YtmcggompdmngmaaGreatDoor
open Go.Proofs
open Go.Shelf
def zpe:Go.Shelf.Ren:=⟨fun|6=>220|15=>122|14=>226|28=>159|29=>160|20=>228|21=>229|22=>230|23=>231|24=>232|25=>233|26=>234|27=>235|46=>237|47=>182|48=>183|49=>238|50=>239|57=>240|n=>n,fun|22=>48|24=>47|25=>283|3=>3|39=>169|0=>0|53=>234|55=>108|4=>4|46=>228|45=>227|50=>143|5=>5|9=>9|66=>251|70=>155|76=>264|77=>67|n=>n,fun|n=>n⟩
theorem y0b:Go.Proofs.SlLaysF0.n6 Tryz.prog zpe:={
 mixed:=by kernel_rfl
 f6:=⟨Tryz.f220.name,by decide,Tryz.func220.trans (congrArg some (by kernel_rfl))⟩
 f14:=⟨Tryz.f226.name,by decide,Tryz.func226.trans (congrArg some (by kernel_rfl))⟩
 f15:=Tryz.func122.trans (congrArg some (by kernel_rfl))
 f20:=⟨Tryz.f228.name,by decide,Tryz.func228.trans (congrArg some (by kernel_rfl))⟩
 f21:=⟨Tryz.f229.name,by decide,Tryz.func229.trans (congrArg some (by kernel_rfl))⟩
 f22:=⟨Tryz.f230.name,by decide,Tryz.func230.trans (congrArg some (by kernel_rfl))⟩
 f23:=⟨Tryz.f231.name,by decide,Tryz.func231.trans (congrArg some (by kernel_rfl))⟩
 f24:=⟨Tryz.f232.name,by decide,Tryz.func232.trans (congrArg some (by kernel_rfl))⟩
 f25:=⟨Tryz.f233.name,by decide,Tryz.func233.trans (congrArg some (by kernel_rfl))⟩
 f26:=⟨Tryz.f234.name,by decide,Tryz.func234.trans (congrArg some (by kernel_rfl))⟩
 f27:=⟨Tryz.f235.name,by decide,Tryz.func235.trans (congrArg some (by kernel_rfl))⟩
 f28:=Tryz.func159.trans (congrArg some (by kernel_rfl))
 f29:=Tryz.func160.trans (congrArg some (by kernel_rfl))
 f46:=⟨Tryz.f237.name,by decide,Tryz.func237.trans (congrArg some (by kernel_rfl))⟩
 f47:=Tryz.func182.trans (congrArg some (by kernel_rfl))
 f48:=Tryz.func183.trans (congrArg some (by kernel_rfl))
 f49:=⟨Tryz.f238.name,by decide,Tryz.func238.trans (congrArg some (by kernel_rfl))⟩
 f50:=⟨Tryz.f239.name,by decide,Tryz.func239.trans (congrArg some (by kernel_rfl))⟩
 f57:=⟨Tryz.f240.name,by decide,Tryz.func240.trans (congrArg some (by kernel_rfl))⟩
 t0:=Tryz.underlying0
 a0:=Tryz.isAgg0
 z0:=Tryz.sizeOf0
 v0:=Tryz.zeroValue0
 t3:=Tryz.underlying3
 a3:=Tryz.isAgg3
 z3:=Tryz.sizeOf3
 v3:=Tryz.zeroValue3
 t4:=Tryz.underlying4
 a4:=Tryz.isAgg4
 z4:=Tryz.sizeOf4
 v4:=Tryz.zeroValue4
 t5:=Tryz.underlying5
 a5:=Tryz.isAgg5
 z5:=Tryz.sizeOf5
 v5:=Tryz.zeroValue5
 t9:=Tryz.underlying9
 a9:=Tryz.isAgg9
 z9:=Tryz.sizeOf9
 v9:=Tryz.zeroValue9
 t22:=Tryz.underlying48
 a22:=Tryz.isAgg48
 z22:=Tryz.sizeOf48
 v22:=Tryz.zeroValue48
 t25:=Tryz.underlying283
 a25:=Tryz.isAgg283
 z25:=Tryz.sizeOf283
 v25:=Tryz.zeroValue283
 t39:=Tryz.underlying169
 a39:=Tryz.isAgg169
 z39:=Tryz.sizeOf169
 v39:=Tryz.zeroValue169
 t45:=Tryz.underlying227
 a45:=Tryz.isAgg227
 z45:=Tryz.sizeOf227
 v45:=Tryz.zeroValue227
 t46:=Tryz.underlying228
 a46:=Tryz.isAgg228
 z46:=Tryz.sizeOf228
 v46:=Tryz.zeroValue228
 t50:=Tryz.underlying143
 a50:=Tryz.isAgg143
 z50:=Tryz.sizeOf143
 v50:=Tryz.zeroValue143
 t53:=Tryz.underlying234
 a53:=Tryz.isAgg234
 z53:=Tryz.sizeOf234
 v53:=Tryz.zeroValue234
 t55:=Tryz.underlying108
 a55:=Tryz.isAgg108
 z55:=Tryz.sizeOf108
 v55:=Tryz.zeroValue108
 t66:=Tryz.underlying251
 a66:=Tryz.isAgg251
 z66:=Tryz.sizeOf251
 v66:=Tryz.zeroValue251
 t70:=Tryz.underlying155
 a70:=Tryz.isAgg155
 z70:=Tryz.sizeOf155
 v70:=Tryz.zeroValue155
 t76:=Tryz.underlying264
 a76:=Tryz.isAgg264
 z76:=Tryz.sizeOf264
 v76:=Tryz.zeroValue264
 t77:=Tryz.underlying67
 a77:=Tryz.isAgg67
 z77:=Tryz.sizeOf67
 v77:=Tryz.zeroValue67 }
open Go.RowKit Go.Lib Go.Sort
theorem y3k (x:Int) (w:World):Calls Tryz.prog 180 #[.int .i32 x] w fun e w'=>e=.returned (.bool false)∧w'=w:=by
 go_enter Tryz.func180,Tryz.ntmps180
 go_wp2
 go_ret
 exact⟨by simp,rfl⟩
theorem y97 (x y:Int) (w:World):Calls Tryz.prog 146 #[.int .i32 x,.int .i32 y] w fun e w'=>e=.returned (.int .i64 (Lib.compareInt x y))∧w'=w:=by
 go_enter Tryz.func146,Tryz.ntmps146
 go_wp2_with (go_at_call 180;refine(y3k _ _).mono ?_;rintro e w' ⟨rfl,hw⟩;rw[hw])
 all_goals (go_ret;refine⟨?_,rfl⟩;unfold Lib.compareInt;(repeat' split) <;> first|rfl|(exfalso;omega))
def y4p (x:Int × Int):List Value:=[.int .i32 x.1,.int .i32 x.2]
theorem zrk (x y:Int × Int) (W:World):Calls Tryz.prog 221 #[.agg #[.int .i32 x.1,.int .i32 x.2],.agg #[.int .i32 y.1,.int .i32 y.2]] W fun e w'=>e=.returned (.int .i64 (Lib.compareInt x.1 y.1))∧∃ q os',w'=grow (W.drewN q) os':=by
 have hcon:=fun W'=>y97 x.1 y.1 W'
 generalize Lib.compareInt x.1 y.1=r at hcon ⊢
 go_enter Tryz.func221,Tryz.ntmps221
 go_wp2_with (go_at_call 146;refine(hcon _).mono ?_;rintro e w' ⟨rfl,rfl⟩)
 go_ret
 exact⟨rfl,0,_,by rw[alloc_eq_grow,alloc_eq_grow,grow_grow];rfl⟩
abbrev cfR (x y:Int × Int):Int:=Lib.compareInt x.1 y.1
theorem ltR (x y:Int × Int):ltOf cfR x y=decide (x.1<y.1):=by
 unfold ltOf cfR Lib.compareInt
 by_cases h1:x.1<y.1
 · simp[h1]
 · by_cases h2:y.1<x.1 <;> simp[h1,h2]
theorem yah:SWO (ltOf cfR) where
 irrefl x:=by rw[ltR];simp
 trans x y z h1 h2:=by rw[ltR] at *;simp at *;omega
 ntrans x y z h1 h2:=by rw[ltR] at *;simp at *;omega
theorem y1x (blk off cap:Nat) (zs:List (Int × Int)) (w:World) (hH:HoldsK y4p 2 w blk off zs.toArray) (hblk:blk<w.heap.size) (hsz:zs.length<4611686018427387904) :
 Calls Tryz.prog 220 #[.slice (some ⟨blk,off,none⟩) zs.length cap,.func (.func 221) #[] #[]] w fun e w' =>
  e=.returned (.tuple #[])∧∃ n os,w'=grow (putRowK y4p 2 (Sort.ahead w n) blk off (pdq (ltOf cfR) zs.toArray 0 zs.toArray.size (Lib.bitLen zs.toArray.size) true true)) os:=by
 have eg:∀ args w,(callFunc 221 args).run Tryz.prog w=.ok (.enter 221 args) w:=enters_of Tryz.func221 (by kernel_rfl) rfl
 exact AnyQ.slices_SortFunc_eq y0b 2 Tryz.isAgg47 Tryz.sizeOf47 y4p (fun _=>rfl) (fun x v hv=>by simp[y4p] at hv;rcases hv with rfl|rfl <;> rfl) cfR yah 221 #[] blk off cap zs.toArray w eg (fun _ _ _ _ x y=>zrk x y _) hH hblk (by simpa using hsz)
theorem zpj (p:Option Addr) (cap:Nat) (fv:Value) (w:World) :
 Calls Tryz.prog 220 #[.slice p 0 cap,fv] w fun e w'=>e=.returned (.tuple #[])∧w'=w:=AnyF.slices_SortFunc_none y0b p cap fv w
end Go.Proofs.YtmcggompdmngmaaGreatDoor
