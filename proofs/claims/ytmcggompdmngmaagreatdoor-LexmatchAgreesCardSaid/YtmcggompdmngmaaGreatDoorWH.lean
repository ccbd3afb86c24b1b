/- A part of the proof: G12 to G13. -/
import Derived.Test.YtmcggompdmngmaaGreatDoorWc
import Derived.Test.YtmcggompdmngmaaGreatDoorWu
import Derived.Test.YtmcggompdmngmaaGreatDoorWx
set_option linter.all false
namespace Go.Proofs.YtmcggompdmngmaaGreatDoor
open Go.Ab Go.Rx
set_option maxHeartbeats 20000000
set_option maxRecDepth 100000
attribute [local irreducible] Run Ops Op1 z14 Val Tr z0d z0w NF Rel z1z z27
def aE (n:Nat) (l:List U):Rx :=
 if nx l=40 then (match pU n [] l.tail with|.ok e _=>e|_=>zec)
 else if nx l=46 then zec else if nx l=91 then zec
 else if nx l≠92∧spA.contains (nx l)=true then zec else Rx.one 0 0
def rsA (n:Nat) (l:List U):Rd Rx→PV
 | .ok a _=>.tup [.d (eX a),B true]
 | .err _ _=>.tup [.d (eX (aE n l)),B false]
 | .out=>.any
section
variable {X:Nat} (hX0:X≠700) (hX1:X≠701) (τ:Tab) (s:ByteArray) (hs:s.size≤1000000)
def HU (X:Nat) (τ:Tab) (s:ByteArray) (N:Nat):Prop:=∀ (i:Nat),i≤s.size→∀ e0:Nat,pU N [] (rst s i)≠.out →
 z0w Tryz.prog 87 [.ptr (e0,X) 0] (((e0,X),pbx s i 0 0)::zhr τ (e0+1)) [((e0,X),zov s (pU N [] (rst s i)))] (z96 eX (eX zec) (pU N [] (rst s i)))
def HC (X:Nat) (τ:Tab) (s:ByteArray) (N:Nat):Prop:=∀ (i:Nat),i≤s.size→∀ e0:Nat,pC N [] (rst s i)≠.out →
 z0w Tryz.prog 128 [.ptr (e0,X) 0] (((e0,X),pbx s i 0 0)::zhr τ (e0+1)) [((e0,X),zov s (pC N [] (rst s i)))] (z96 eX (eX zec) (pC N [] (rst s i)))
def HR (X:Nat) (τ:Tab) (s:ByteArray) (N:Nat):Prop:=∀ (i:Nat),i≤s.size→0≤nx (rst s i)→∀ e0:Nat,pR N (rst s i)≠.out →
 z0w Tryz.prog 164 [.ptr (e0,X) 0] (((e0,X),pbx s i 0 0)::zhr τ (e0+1)) [((e0,X),zov s (pR N (rst s i)))] (z96 eX (eX zec) (pR N (rst s i)))
def HA (X:Nat) (τ:Tab) (s:ByteArray) (N:Nat):Prop:=∀ (i:Nat),i≤s.size→0≤nx (rst s i)→∀ e0:Nat,pA (N+1) (rst s i)≠.out →
 z0w Tryz.prog 196 [.ptr (e0,X) 0] (((e0,X),pbx s i 0 0)::zhr τ (e0+1)) [((e0,X),zov s (pA (N+1) (rst s i)))] (rsA N (rst s i) (pA (N+1) (rst s i)))
include hX0 hX1 hs
theorem y5l (N:Nat) (hU:HU X τ s N):HA X τ s N:=by
 intro i hi hnx e0 hne
 refine z10 fun H hH=>?_
 have hX:H e0 X=some (pbx s i 0 0):=hH ((e0,X),pbx s i 0 0) (by simp)
 have hT:HT τ (e0+1) H:=HT.of (bs:=[((e0,X),pbx s i 0 0)]) hH
 refine z08 Tryz.func196 (by kernel_rfl) rfl (by simp) ?_
 dsimp only[Tryz.f196]
 have hn:=z42 (X:=X) τ s i hi 0 0 (e0+1)
 rw[pA] at hne ⊢
 by_cases h40:nx (rst s i)=40
 · obtain⟨hlt,ht,he⟩:=z2e hi h40 (by decide) (by decide)
   rw[zAz h40,ht] at hne ⊢
   have hu:=hU (i+1) hlt (e0+1) (fun h=>hne (by rw[h]))
   have haE:aE N (rst s i)=(match pU N [] (rst s (i+1)) with|.ok e _=>e|_=>zec):=by rw[aE,zAz h40,ht]
   have hsf:=(zge N).1 [] (rst s (i+1))
   rw[h40] at hn
   rcases hp:pU N [] (rst s (i+1)) with ⟨e,r⟩|⟨a,b⟩|_
   · rw[hp] at hu hsf haE
     obtain⟨j,hj1,hj,rfl⟩:=z5e s _ (i+1) r (zAj _) hlt hsf
     rw[z3u hj] at hu
     simp only at haE
     obtain⟨op,mn,mx,rs,ks⟩:=e
     rw[z96,z6g] at hu
     have heat:=yan hX0 hX1 τ s hs j hj 41 (by decide) (by decide) (e0+1)
     simp only
     by_cases h41:nx (rst s j)=41
     · obtain⟨hjl,htj,hej⟩:=z2e hj h41 (by decide) (by decide)
       rw[zAz h41,htj,z3u hjl,rsA,z6g]
       rw[zAz h41,zAi h41] at heat
       all_goals exact zD43
     · rw[zAy h41,z5j hj,rsA,haE,z6g]
       rw[zAy h41,zAo h41] at heat
       all_goals exact zD43
   · rw[hp] at hu haE
     simp only at haE
     rw[z96,z4a] at hu
     simp only
     rw[rsA,haE,z4a]
     repeat' (first|(apply z0i;(refine z2r hX ?_))|(apply z03;(first|refine z1v hu (z02 _ (e0,X) _) (bkT (by repeat (first|exact hT|refine HT.upd ?_ hX0 hX1))) ?_| refine z0s hn (z07 (m:=(e0+1,X)) hX (bkT (by repeat (first|exact hT|refine HT.upd ?_ hX0 hX1)))) ?_))|(apply z0o;(refine z1r (raw':=pbx s ((i+1:Nat):Int) 0 0) hX ?_))|refine z05 ?_|fail)
     all_goals exact zD7
   · rw[hp] at hne;exact absurd rfl hne
 rw[zAy h40] at hne ⊢
 by_cases h46:nx (rst s i)=46
 · obtain⟨hlt,ht,he⟩:=z2e hi h46 (by decide) (by decide)
   rw[zAz h46,ht,z3u hlt]
   have ho:=y1c 0 1114111
   rw[h46] at hn
   repeat' (first|(apply z0i;(refine z2r hX ?_))|(apply z03;(first|refine z0s hn (z07 (m:=(e0+1,X)) hX (bkT (by repeat (first|exact hT|refine HT.upd ?_ hX0 hX1)))) ?_| refine z1i ho ?_))|(apply z0o;(refine z1r (raw':=pbx s ((i+1:Nat):Int) 0 0) hX ?_))|refine z05 ?_|fail)
   all_goals exact zD7
 rw[zAy h46] at hne ⊢
 by_cases h91:nx (rst s i)=91
 · rw[zAz h91] at hne ⊢
   have hcl:=y27 hX0 hX1 τ s hs N i hi h91 hne (e0+1)
   have haE:aE N (rst s i)=zec:=by rw[aE,zAy h40,zAy h46,zAz h91]
   rw[h91] at hn
   rcases hp:zgl N (rst s i) with ⟨e,r⟩|⟨a,b⟩|_
   · rw[hp] at hcl
     obtain⟨op,mn,mx,rs,ks⟩:=e
     rw[z96,z6g] at hcl
     rw[rsA,z6g]
     all_goals exact zD85
   · rw[hp] at hcl
     rw[z96,z4a] at hcl
     rw[rsA,haE,z4a]
     all_goals exact zD85
   · exact absurd hp hne
 rw[zAy h91] at hne ⊢
 have hr:=zmm s i
 have hcr:=z5w yb6 (nx (rst s i)) hr.1 hr.2
 by_cases hsp:nx (rst s i)≠92∧spA.contains (nx (rst s i))=true
 · have haE:aE N (rst s i)=zec:=by rw[aE,zAy h40,zAy h46,zAy h91,zAz hsp]
   have hlt:=y2n hi hnx
   have hp:z92 spA (rst s i)=.err (rst s i) 3:=by
    have e1:=z3c hlt
    have hx:=zbl hlt
    have h1:=hsp.1
    have h2:=hsp.2
    rw[e1,z3s]
    simp only
    rw[← hx,zAy h1,zAz h2]
   rw[hp]
   simp only
   rw[z5j hi,rsA,haE,z4a]
   have hf:=z5p (X:=X) s (I .i64 (i:Nat)) (i:Nat) 3 (e0+1) (by decide)
   rw[hsp.2] at hcr
   have h1:=hsp.1
   repeat' (first|(apply z0i;(refine z2r hX ?_))|(apply z03;(first|refine z2x hf rfl hX (by decide) ?_|refine z0s hn (z07 (m:=(e0+1,X)) hX (bkT (by repeat (first|exact hT|refine HT.upd ?_ hX0 hX1)))) ?_| refine z1i hcr ?_))|refine z05 ?_|refine fk (fun _=>?_) (fun _=>?_))
   all_goals try (exfalso;omega)
   all_goals ((repeat rw[z0a]);refine z4r wkP ?_;first|exact z00 Tryz.func196 _ (z04 rfl rfl rfl rfl rfl rfl rfl) ⟨rfl,rfl⟩|exact z00 Tryz.func196 _ z0z ⟨rfl,rfl⟩|exact z00 Tryz.func196 _ z11 ⟨rfl,rfl⟩|exact z00 Tryz.func196 _ z1h ⟨rfl,rfl⟩)
 · have hok:nx (rst s i)=92∨spA.contains (nx (rst s i))=false:=by
    by_cases h:nx (rst s i)=92
    · exact .inl h
    · right
      cases h2:spA.contains (nx (rst s i)) with
      | false=>rfl
      | true=>exact absurd ⟨h,h2⟩ hsp
   have haE:aE N (rst s i)=Rx.one 0 0:=by rw[aE,zAy h40,zAy h46,zAy h91,zAy hsp]
   have hch:=zzu hX0 hX1 τ s hs yb6 i hi hnx hok (e0+1)
   rcases hp:z92 spA (rst s i) with ⟨c,r⟩|⟨a,b⟩|_
   · rw[hp] at hch
     have ho:=y1c c c
     simp only
     rw[rsA,zme]
     exact zD29
   · rw[hp] at hch
     have ho:=y1c 0 0
     simp only
     rw[rsA,haE,zme]
     exact zD29
   · exact absurd hp z9j
end
theorem zkt {lo hi:Int} {l r:List U} {b:Int × Int} (h:zei lo hi l=.ok b r):nx r=125:=by
 rw[zei] at h
 split at h
 · simp only[Rd.ok.injEq] at h;rw[← h.2];assumption
 · simp at h
theorem zq3 {l r:List U} {b:Int × Int} (h:z90 l=.ok b r):nx r=125:=by
 rw[z90] at h
 split at h
 · simp at h
 · simp at h
 · split at h
   · split at h
     · exact zkt h
     · split at h
       · simp at h
       · simp at h
       · exact zkt h
   · exact zkt h
section
variable {X:Nat} (hX0:X≠700) (hX1:X≠701) (τ:Tab) (s:ByteArray) (hs:s.size≤1000000)
include hX0 hX1 hs
theorem zwx (N:Nat) (hA:HA X τ s N):HR X τ s (N+2):=by
 intro i hi hnx e0 hne
 refine z10 fun H hH=>?_
 have hX:H e0 X=some (pbx s i 0 0):=hH ((e0,X),pbx s i 0 0) (by simp)
 have hT:HT τ (e0+1) H:=HT.of (bs:=[((e0,X),pbx s i 0 0)]) hH
 refine z08 Tryz.func164 (by kernel_rfl) rfl (by simp) ?_
 dsimp only[Tryz.f164]
 rw[pR] at hne ⊢
 have ha:=hA i hi hnx (e0+1) (fun h=>hne (by rw[h]))
 have hsf:=((zge (N+1)).2.2.2.2 (rst s i)).1
 rcases hp:pA (N+1) (rst s i) with ⟨e,r⟩|⟨a,b⟩|_
 · rw[hp] at ha hsf hne
   obtain⟨j0,hj1,hj0,rfl⟩:=z5e s _ i r (zAj _) hi hsf
   rw[z3u hj0] at ha
   simp only at hne ⊢
   obtain⟨T,hT0⟩:∃ T,pQ (N+1) e (rst s j0)=T:=⟨_,rfl⟩
   rw[hT0] at hne ⊢
   obtain⟨op,mn,mx,rs,ks⟩:=e
   rw[rsA,z6g] at ha
   repeat' (first|(apply z03;(refine z1v ha hX (bkT (by repeat (first|exact hT|refine HT.upd ?_ hX0 hX1))) ?_))|refine z05 ?_|fail)
   all_goals try (exfalso;omega)
   refine z0l ?_
   refine z01 (z0x (fun q:Nat × Rx × D × Nat=>⟨54,[(0,.ptr (e0+1,X) 0),(2,.ptr (0,2) 0),(4,.ptr (0,4) 0),(5,B true)],[(4,.box [.d (z4n q.2.1.op),.d (z4n q.2.1.mn),.d (z4n q.2.1.mx),.d q.2.2.1,.d (.slice (q.2.1.ks.map rxc))]),(2,.box (z5v [Value.int .i64 0,Value.int .i64 0,Value.int .i64 0,z2w,z2w]))],upd H (e0,X) (pbx s (q.2.2.2:Nat) 0 0)⟩)
    (fun q=>q.2.2.2≤s.size∧pQ q.1 q.2.1 (rst s q.2.2.2)=T∧(q.2.2.1=rgs q.2.1.rs∨(q.2.2.1=.lit z2w∧q.2.1.rs=[]))) (fun q=>q.1) ?_ (N+1,.mk op mn mx rs ks,rgs rs,j0) ⟨hj0,hT0,.inl rfl⟩) rfl rfl
   clear hT0 ha hp hsf
   rintro⟨m,⟨op,mn,mx,rs,ks⟩,R,j⟩ ⟨i1,i2,i3⟩ ih
   simp only[Rx.op,Rx.mn,Rx.mx,Rx.rs,Rx.ks] at i1 i2 i3 ih ⊢
   cases m with
   | zero=>rw[pQ] at i2;exact absurd i2.symm hne
   | succ m =>
   have hn:=z42 (X:=X) τ s j i1 0 0 (e0+1)
   rw[pQ] at i2
   rcases i3 with rfl|⟨rfl,rfl⟩
   · skip
     by_cases h42:nx (rst s j)=42
     · rw[zAz h42] at i2
       obtain⟨hjl,htj,hej⟩:=z2e i1 h42 (by decide) (by decide)
       rw[htj] at i2
       rw[h42] at hn
       have ih':=ih (m,zbv 0 (-1) (.mk op mn mx rs ks),.lit z2w,j+1) ⟨hjl,i2,.inr ⟨rfl,rfl⟩⟩ (by simp only;omega)
       exact zD8
     rw[zAy h42] at i2
     by_cases h43:nx (rst s j)=43
     · rw[zAz h43] at i2
       obtain⟨hjl,htj,hej⟩:=z2e i1 h43 (by decide) (by decide)
       rw[htj] at i2
       rw[h43] at hn
       have ih':=ih (m,zbv 1 (-1) (.mk op mn mx rs ks),.lit z2w,j+1) ⟨hjl,i2,.inr ⟨rfl,rfl⟩⟩ (by simp only;omega)
       exact zD8
     rw[zAy h43] at i2
     by_cases h63:nx (rst s j)=63
     · rw[zAz h63] at i2
       obtain⟨hjl,htj,hej⟩:=z2e i1 h63 (by decide) (by decide)
       rw[htj] at i2
       rw[h63] at hn
       have ih':=ih (m,zbv 0 1 (.mk op mn mx rs ks),.lit z2w,j+1) ⟨hjl,i2,.inr ⟨rfl,rfl⟩⟩ (by simp only;omega)
       exact zD8
     rw[zAy h63] at i2
     by_cases h123:nx (rst s j)=123
     · rw[zAz h123] at i2
       obtain⟨hjl,htj,hej⟩:=z2e i1 h123 (by decide) (by decide)
       rw[htj] at i2
       rw[h123] at hn
       have hb:=zll hX0 hX1 τ s hs (j+1) hjl (e0+1)
       have hbf:=z7z (rst s (j+1))
       rcases hp:z90 (rst s (j+1)) with ⟨⟨lo,hi'⟩,r⟩|⟨a,b⟩|_
       · rw[hp] at hb hbf i2
         obtain⟨k,hk1,hk,rfl⟩:=z5e s _ (j+1) r (zAj _) hjl hbf
         obtain⟨hkl,htk,hek⟩:=z2e hk (zq3 hp) (by decide) (by decide)
         simp only at i2
         rw[htk] at i2
         rw[z3u hk,rsB] at hb
         have ih':=ih (m,zbv lo hi' (.mk op mn mx rs ks),.lit z2w,k+1) ⟨hkl,i2,.inr ⟨rfl,rfl⟩⟩ (by simp only;omega)
         exact zD34
       · exact zD41
       · exact absurd hp zkv
     exact zD66
   · skip
     by_cases h42:nx (rst s j)=42
     · rw[zAz h42] at i2
       obtain⟨hjl,htj,hej⟩:=z2e i1 h42 (by decide) (by decide)
       rw[htj] at i2
       rw[h42] at hn
       have ih':=ih (m,zbv 0 (-1) (.mk op mn mx [] ks),.lit z2w,j+1) ⟨hjl,i2,.inr ⟨rfl,rfl⟩⟩ (by simp only;omega)
       exact zD8
     rw[zAy h42] at i2
     by_cases h43:nx (rst s j)=43
     · rw[zAz h43] at i2
       obtain⟨hjl,htj,hej⟩:=z2e i1 h43 (by decide) (by decide)
       rw[htj] at i2
       rw[h43] at hn
       have ih':=ih (m,zbv 1 (-1) (.mk op mn mx [] ks),.lit z2w,j+1) ⟨hjl,i2,.inr ⟨rfl,rfl⟩⟩ (by simp only;omega)
       exact zD8
     rw[zAy h43] at i2
     by_cases h63:nx (rst s j)=63
     · rw[zAz h63] at i2
       obtain⟨hjl,htj,hej⟩:=z2e i1 h63 (by decide) (by decide)
       rw[htj] at i2
       rw[h63] at hn
       have ih':=ih (m,zbv 0 1 (.mk op mn mx [] ks),.lit z2w,j+1) ⟨hjl,i2,.inr ⟨rfl,rfl⟩⟩ (by simp only;omega)
       exact zD8
     rw[zAy h63] at i2
     by_cases h123:nx (rst s j)=123
     · rw[zAz h123] at i2
       obtain⟨hjl,htj,hej⟩:=z2e i1 h123 (by decide) (by decide)
       rw[htj] at i2
       rw[h123] at hn
       have hb:=zll hX0 hX1 τ s hs (j+1) hjl (e0+1)
       have hbf:=z7z (rst s (j+1))
       rcases hp:z90 (rst s (j+1)) with ⟨⟨lo,hi'⟩,r⟩|⟨a,b⟩|_
       · rw[hp] at hb hbf i2
         obtain⟨k,hk1,hk,rfl⟩:=z5e s _ (j+1) r (zAj _) hjl hbf
         obtain⟨hkl,htk,hek⟩:=z2e hk (zq3 hp) (by decide) (by decide)
         simp only at i2
         rw[htk] at i2
         rw[z3u hk,rsB] at hb
         have ih':=ih (m,zbv lo hi' (.mk op mn mx [] ks),.lit z2w,k+1) ⟨hkl,i2,.inr ⟨rfl,rfl⟩⟩ (by simp only;omega)
         exact zD34
       · exact zD41
       · exact absurd hp zkv
     exact zD66
 · rw[hp] at ha
   simp only
   rw[rsA] at ha
   generalize aE N (rst s i)=E at ha
   obtain⟨op,mn,mx,rs,ks⟩:=E
   rw[z6g] at ha
   rw[z96,z4a]
   repeat' (first|(apply z03;(refine z1v ha hX (bkT (by repeat (first|exact hT|refine HT.upd ?_ hX0 hX1))) ?_))|refine z05 ?_|fail)
   all_goals try (exfalso;omega)
   refine z0l ?_
   refine zg7 ?_
   repeat' (first|refine z05 ?_|fail)
   all_goals exact zD22
 · rw[hp] at hne;exact absurd rfl hne
end
end Go.Proofs.YtmcggompdmngmaaGreatDoor
