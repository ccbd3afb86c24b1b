/- A part of the proof: G15 to G18. -/
import Derived.Test.YtmcggompdmngmaaGreatDoorUc
import Derived.Test.YtmcggompdmngmaaGreatDoorUs
import Derived.Shelf.SlSortCmp.NoneTotal
import Derived.Test.YtmcggompdmngmaaGreatDoorProg
import Derived.Test.YtmcggompdmngmaaGreatDoorUx
import Derived.Test.YtmcggompdmngmaaGreatDoorUr
import Derived.Test.YtmcggompdmngmaaGreatDoorUF
set_option linter.all false
namespace Go.Proofs.YtmcggompdmngmaaGreatDoor
open Go.Ab Go.Rx
set_option maxHeartbeats 20000000
set_option maxRecDepth 100000
attribute [local irreducible] Run Ops Op1 z15 Val Tr z0d z0y NF Rel z2a z29
section
variable {X:Nat} (hX0:X≠700) (hX1:X≠701) (τ:Tab) (s:ByteArray) (hs:s.size≤1000000)
include hX0 hX1 hs
theorem zwl (N:Nat) (hA:HA X τ s N):HR X τ s (N+2):=by
 intro i hi hnx e0 hne
 refine z11 fun H hH=>?_
 have hX:H e0 X=some (pbx s i 0 0):=hH ((e0,X),pbx s i 0 0) (by simp)
 have hT:HT τ (e0+1) H:=HT.of (bs:=[((e0,X),pbx s i 0 0)]) hH
 refine z0a Tryz.func164 (by kernel_rfl) rfl (by simp) ?_
 dsimp only[Tryz.f164]
 rw[pR] at hne ⊢
 have ha:=hA i hi hnx (e0+1) (fun h=>hne (by rw[h]))
 have hsf:=((zgt (N+1)).2.2.2.2 (rst s i)).1
 rcases hp:pA (N+1) (rst s i) with ⟨e,r⟩|⟨a,b⟩|_
 · rw[hp] at ha hsf hne
   obtain⟨j0,hj1,hj0,rfl⟩:=z5k s _ i r (zAj _) hi hsf
   rw[z3w hj0] at ha
   simp only at hne ⊢
   obtain⟨T,hT0⟩:∃ T,pQ (N+1) e (rst s j0)=T:=⟨_,rfl⟩
   rw[hT0] at hne ⊢
   obtain⟨op,mn,mx,rs,ks⟩:=e
   rw[rsA,z6j] at ha
   repeat' (first|(apply z03;(refine z1y ha hX (bkT (by repeat (first|exact hT|refine HT.upd ?_ hX0 hX1))) ?_))|refine z05 ?_|fail)
   all_goals try (exfalso;omega)
   refine z0j ?_
   refine z01 (z0z (fun q:Nat × Rx × D × Nat=>⟨54,[(0,.ptr (e0+1,X) 0),(2,.ptr (0,2) 0),(4,.ptr (0,4) 0),(5,B true)],[(4,.box [.d (z4g q.2.1.op),.d (z4g q.2.1.mn),.d (z4g q.2.1.mx),.d q.2.2.1,.d (.slice (q.2.1.ks.map rxc))]),(2,.box (z5w [Value.int .i64 0,Value.int .i64 0,Value.int .i64 0,z2s,z2s]))],upd H (e0,X) (pbx s (q.2.2.2:Nat) 0 0)⟩)
    (fun q=>q.2.2.2≤s.size∧pQ q.1 q.2.1 (rst s q.2.2.2)=T∧(q.2.2.1=rgs q.2.1.rs∨(q.2.2.1=.lit z2s∧q.2.1.rs=[]))) (fun q=>q.1) ?_ (N+1,.mk op mn mx rs ks,rgs rs,j0) ⟨hj0,hT0,.inl rfl⟩) rfl rfl
   clear hT0 ha hp hsf
   rintro⟨m,⟨op,mn,mx,rs,ks⟩,R,j⟩ ⟨i1,i2,i3⟩ ih
   simp only[Rx.op,Rx.mn,Rx.mx,Rx.rs,Rx.ks] at i1 i2 i3 ih ⊢
   cases m with
   | zero=>rw[pQ] at i2;exact absurd i2.symm hne
   | succ m =>
   have hn:=z47 (X:=X) τ s j i1 0 0 (e0+1)
   rw[pQ] at i2
   rcases i3 with rfl|⟨rfl,rfl⟩
   · skip
     by_cases h42:nx (rst s j)=42
     · rw[zAz h42] at i2
       obtain⟨hjl,htj,hej⟩:=z2h i1 h42 (by decide) (by decide)
       rw[htj] at i2
       rw[h42] at hn
       have ih':=ih (m,zbu 0 (-1) (.mk op mn mx rs ks),.lit z2s,j+1) ⟨hjl,i2,.inr ⟨rfl,rfl⟩⟩ (by simp only;omega)
       exact zD8
     rw[zAy h42] at i2
     by_cases h43:nx (rst s j)=43
     · rw[zAz h43] at i2
       obtain⟨hjl,htj,hej⟩:=z2h i1 h43 (by decide) (by decide)
       rw[htj] at i2
       rw[h43] at hn
       have ih':=ih (m,zbu 1 (-1) (.mk op mn mx rs ks),.lit z2s,j+1) ⟨hjl,i2,.inr ⟨rfl,rfl⟩⟩ (by simp only;omega)
       exact zD8
     rw[zAy h43] at i2
     by_cases h63:nx (rst s j)=63
     · rw[zAz h63] at i2
       obtain⟨hjl,htj,hej⟩:=z2h i1 h63 (by decide) (by decide)
       rw[htj] at i2
       rw[h63] at hn
       have ih':=ih (m,zbu 0 1 (.mk op mn mx rs ks),.lit z2s,j+1) ⟨hjl,i2,.inr ⟨rfl,rfl⟩⟩ (by simp only;omega)
       exact zD8
     rw[zAy h63] at i2
     by_cases h123:nx (rst s j)=123
     · rw[zAz h123] at i2
       obtain⟨hjl,htj,hej⟩:=z2h i1 h123 (by decide) (by decide)
       rw[htj] at i2
       rw[h123] at hn
       have hb:=zn2 hX0 hX1 τ s hs (j+1) hjl (e0+1)
       have hbf:=z7y (rst s (j+1))
       rcases hp:z9g (rst s (j+1)) with ⟨⟨lo,hi'⟩,r⟩|⟨a,b⟩|_
       · rw[hp] at hb hbf i2
         obtain⟨k,hk1,hk,rfl⟩:=z5k s _ (j+1) r (zAj _) hjl hbf
         obtain⟨hkl,htk,hek⟩:=z2h hk (zs8 hp) (by decide) (by decide)
         simp only at i2
         rw[htk] at i2
         rw[z3w hk,rsB] at hb
         have ih':=ih (m,zbu lo hi' (.mk op mn mx rs ks),.lit z2s,k+1) ⟨hkl,i2,.inr ⟨rfl,rfl⟩⟩ (by simp only;omega)
         exact zD35
       · exact zD43
       · exact absurd hp zle
     exact zD75
   · skip
     by_cases h42:nx (rst s j)=42
     · rw[zAz h42] at i2
       obtain⟨hjl,htj,hej⟩:=z2h i1 h42 (by decide) (by decide)
       rw[htj] at i2
       rw[h42] at hn
       have ih':=ih (m,zbu 0 (-1) (.mk op mn mx [] ks),.lit z2s,j+1) ⟨hjl,i2,.inr ⟨rfl,rfl⟩⟩ (by simp only;omega)
       exact zD8
     rw[zAy h42] at i2
     by_cases h43:nx (rst s j)=43
     · rw[zAz h43] at i2
       obtain⟨hjl,htj,hej⟩:=z2h i1 h43 (by decide) (by decide)
       rw[htj] at i2
       rw[h43] at hn
       have ih':=ih (m,zbu 1 (-1) (.mk op mn mx [] ks),.lit z2s,j+1) ⟨hjl,i2,.inr ⟨rfl,rfl⟩⟩ (by simp only;omega)
       exact zD8
     rw[zAy h43] at i2
     by_cases h63:nx (rst s j)=63
     · rw[zAz h63] at i2
       obtain⟨hjl,htj,hej⟩:=z2h i1 h63 (by decide) (by decide)
       rw[htj] at i2
       rw[h63] at hn
       have ih':=ih (m,zbu 0 1 (.mk op mn mx [] ks),.lit z2s,j+1) ⟨hjl,i2,.inr ⟨rfl,rfl⟩⟩ (by simp only;omega)
       exact zD8
     rw[zAy h63] at i2
     by_cases h123:nx (rst s j)=123
     · rw[zAz h123] at i2
       obtain⟨hjl,htj,hej⟩:=z2h i1 h123 (by decide) (by decide)
       rw[htj] at i2
       rw[h123] at hn
       have hb:=zn2 hX0 hX1 τ s hs (j+1) hjl (e0+1)
       have hbf:=z7y (rst s (j+1))
       rcases hp:z9g (rst s (j+1)) with ⟨⟨lo,hi'⟩,r⟩|⟨a,b⟩|_
       · rw[hp] at hb hbf i2
         obtain⟨k,hk1,hk,rfl⟩:=z5k s _ (j+1) r (zAj _) hjl hbf
         obtain⟨hkl,htk,hek⟩:=z2h hk (zs8 hp) (by decide) (by decide)
         simp only at i2
         rw[htk] at i2
         rw[z3w hk,rsB] at hb
         have ih':=ih (m,zbu lo hi' (.mk op mn mx [] ks),.lit z2s,k+1) ⟨hkl,i2,.inr ⟨rfl,rfl⟩⟩ (by simp only;omega)
         exact zD35
       · exact zD43
       · exact absurd hp zle
     exact zD75
 · rw[hp] at ha
   simp only
   rw[rsA] at ha
   generalize aE N (rst s i)=E at ha
   obtain⟨op,mn,mx,rs,ks⟩:=E
   rw[z6j] at ha
   rw[z9f,z4e]
   repeat' (first|(apply z03;(refine z1y ha hX (bkT (by repeat (first|exact hT|refine HT.upd ?_ hX0 hX1))) ?_))|refine z05 ?_|fail)
   all_goals try (exfalso;omega)
   refine z0j ?_
   refine zch ?_
   repeat' (first|refine z05 ?_|fail)
   all_goals exact zD21
 · rw[hp] at hne;exact absurd rfl hne
end
theorem zsj {o:Int} {l:List Rx} (h:l.length≠1):fin o l=.mk o 0 0 [] l:=by
 match l,h with
 | [],_=>rfl
 | [e],h=>simp at h
 | a::b::l,_=>rfl
section
variable {X:Nat} (hX0:X≠700) (hX1:X≠701) (τ:Tab) (s:ByteArray) (hs:s.size≤1000000)
include hX0 hX1 hs
theorem zvo (N:Nat) (hR:∀ m,m<N→HR X τ s m):HC X τ s N:=by
 intro i hi e0 hne
 refine z11 fun H hH=>?_
 have hX:H e0 X=some (pbx s i 0 0):=hH ((e0,X),pbx s i 0 0) (by simp)
 have hT:HT τ (e0+1) H:=HT.of (bs:=[((e0,X),pbx s i 0 0)]) hH
 refine z0a Tryz.func128 (by kernel_rfl) rfl (by simp) ?_
 dsimp only[Tryz.f128]
 have hn:=z47 (X:=X) τ s i hi 0 0 (e0+1)
 have hil:=z5l s _ i (zAj _)
 obtain⟨T,hT0⟩:∃ T,pC N [] (rst s i)=T:=⟨_,rfl⟩
 rw[hT0] at hne ⊢
 repeat' (first|(apply z03;(refine z0p hn (z09 (m:=(e0+1,X)) hX (bkT (by repeat (first|exact hT|refine HT.upd ?_ hX0 hX1)))) ?_))|refine z05 ?_|fail)
 all_goals try (exfalso;omega)
 refine z1t 4 1000 51 5 rfl rfl rfl ?_
 refine z0j ?_
 refine zqe (m:=(e0,X)) hX ?_
 refine z01 (z0z (fun q:Nat × List Rx × Nat=>⟨49,[(0,.ptr (e0+1,X) 0),(2,.ptr (0,2) 0),(4,.ref (0,1000)),(5,I .i32 (nx (rst s q.2.2)))],[(1000,.row 51 5 (q.2.1.map rxc)),(2,.box (z5w [Value.int .i64 0,Value.int .i64 0,Value.int .i64 0,z2s,z2s]))],upd H (e0,X) (pbx s (q.2.2:Nat) 0 0)⟩)
  (fun q=>q.2.2≤s.size∧q.1≤N∧szL q.2.1+2*(rst s q.2.2).length≤2*(rst s i).length∧pC q.1 q.2.1 (rst s q.2.2)=T) (fun q=>q.1) ?_ (N,[],i) ⟨hi,zAj _,by simp[szL],hT0⟩) rfl rfl
 clear hT0 hn
 rintro⟨m,acc,j⟩ ⟨i1,i2,i3,i4⟩ ih
 simp only at i1 i2 i3 i4 ih ⊢
 cases m with
 | zero=>rw[pC] at i4;exact absurd i4.symm hne
 | succ m =>
 rw[pC] at i4
 have hal:=zav acc
 have hrg:=zms s j
 by_cases hend:nx (rst s j)<0∨nx (rst s j)=124∨nx (rst s j)=41
 · rw[zAz hend] at i4
   rw[← i4,z3w i1]
   by_cases h1:acc.length=1
   · obtain⟨x,rfl⟩:=List.length_eq_one_iff.1 h1
     obtain⟨op,mn,mx,rs,ks⟩:=x
     rw[show fin 2 [Rx.mk op mn mx rs ks]=Rx.mk op mn mx rs ks from rfl,z9f,z6j,List.map_cons,List.map_nil,z34]
     clear ih
     refine z10 1000 rfl ?_
     repeat' (first|(apply z06;(refine z0b (z38 (u:=rx5 op mn mx rs ks) rfl (by omega) rfl rfl) rfl rfl ?_))|refine z05 ?_|refine fk (fun _=>?_) (fun _=>?_))
     all_goals exact zD47
   · rw[zsj h1,z9f,z6j]
     clear ih
     refine z10 1000 rfl ?_
     repeat' (first|refine z05 ?_|refine fk (fun _=>?_) (fun _=>?_))
     all_goals exact zD47
 · rw[zAy hend] at i4
   have hr:=hR m (by omega) j i1 (by omega) (e0+1) (fun h=>hne (by rw[← i4,h]))
   have hsf:=((zgt m).2.2.1 (rst s j)).1
   have hsz:=(y87 m).2.2.1 (rst s j)
   rcases hp:pR m (rst s j) with ⟨e,r⟩|⟨a,b⟩|_
   · rw[hp] at hr hsf hsz i4
     obtain⟨k,hk1,hk,rfl⟩:=z5k s _ j r (zAj _) i1 hsf
     rw[z3w hk] at hr
     have hsz:=hsz e _ rfl
     simp only at i4
     have hn:=z47 (X:=X) τ s k hk 0 0 (e0+1)
     have hfl:=zhi 2 e
     have hfa:=zdr acc (flat 2 e)
     obtain⟨op,mn,mx,rs,ks⟩:=e
     rw[z9f,z6j] at hr
     have hks:=zav ks
     have ih':=ih (m,acc++flat 2 (.mk op mn mx rs ks),k) ⟨hk,by simp only;omega,by simp only;omega,i4⟩ (by simp only;omega)
     by_cases h2:op=2
     · have hf2:flat 2 (Rx.mk op mn mx rs ks)=ks:=by simp[flat,Rx.op,Rx.ks,h2]
       rw[hf2] at ih' hfl
       simp only at ih'
       subst h2
       have hn2:=hn
       repeat' (first|(apply z1q;(refine z9y (g:=rxc) rfl rfl rfl rfl rfl z3x rfl rfl (by decide) (by omega) ?_))|(apply z03;(first|refine z1y hr (z02 _ (e0,X) _) (bkT (by repeat (first|exact hT|refine HT.upd ?_ hX0 hX1))) ?_| refine z0p hn2 (z09 (m:=(e0+1,X)) (z02 _ (e0,X) _) (bkT (by repeat (first|exact hT|refine HT.upd ?_ hX0 hX1)))) ?_))|refine z05 ?_|refine fk (fun _=>?_) (fun _=>?_))
       all_goals try (exfalso;omega)
       all_goals ((repeat rw[z0c]);refine z2g 36 1000 ?_;exact z01 ih' rfl rfl)
     · have hf2:flat 2 (Rx.mk op mn mx rs ks)=[Rx.mk op mn mx rs ks]:=by simp[flat,Rx.op,h2]
       rw[hf2] at ih'
       simp only at ih'
       have hn2:=hn
       repeat' (first|(apply z1q;(first|refine z5n (g:=rxc) rfl rfl (Rx.mk op mn mx rs ks) (by rw[z34];rfl) rfl rfl rfl (z3x _) rfl rfl (by decide) (by omega) ?_|refine z9y (g:=rxc) rfl rfl rfl rfl rfl z3x rfl rfl (by decide) (by omega) ?_))|(apply z03;(first|refine z1y hr (z02 _ (e0,X) _) (bkT (by repeat (first|exact hT|refine HT.upd ?_ hX0 hX1))) ?_| refine z0p hn2 (z09 (m:=(e0+1,X)) (z02 _ (e0,X) _) (bkT (by repeat (first|exact hT|refine HT.upd ?_ hX0 hX1)))) ?_))|refine z05 ?_|refine fk (fun _=>?_) (fun _=>?_))
       all_goals try (exfalso;omega)
       all_goals ((repeat rw[z0c]);refine z2g 40 1000 ?_;exact z01 ih' rfl rfl)
   · rw[hp] at hr i4
     simp only at i4
     rw[← i4,z9f,z4e]
     rw[z9f,z4e] at hr
     repeat' (first|(apply z03;(refine z1y hr (z02 _ (e0,X) _) (bkT (by repeat (first|exact hT|refine HT.upd ?_ hX0 hX1))) ?_))|refine z05 ?_|refine fk (fun _=>?_) (fun _=>?_))
     all_goals exact zD47
   · rw[hp] at i4;exact absurd i4.symm hne
end
section
variable {X:Nat} (hX0:X≠700) (hX1:X≠701) (τ:Tab) (s:ByteArray) (hs:s.size≤1000000)
include hX0 hX1 hs
theorem y3i (N:Nat) (hC:∀ m,m<N→HC X τ s m):HU X τ s N:=by
 intro i hi e0 hne
 refine z11 fun H hH=>?_
 have hX:H e0 X=some (pbx s i 0 0):=hH ((e0,X),pbx s i 0 0) (by simp)
 have hT:HT τ (e0+1) H:=HT.of (bs:=[((e0,X),pbx s i 0 0)]) hH
 refine z0a Tryz.func87 (by kernel_rfl) rfl (by simp) ?_
 dsimp only[Tryz.f87]
 have hil:=z5l s _ i (zAj _)
 obtain⟨T,hT0⟩:∃ T,pU N [] (rst s i)=T:=⟨_,rfl⟩
 rw[hT0] at hne ⊢
 repeat' (first|refine z05 ?_|fail)
 all_goals try (exfalso;omega)
 refine z1t 4 1000 51 5 rfl rfl rfl ?_
 refine z0j ?_
 refine zqe (m:=(e0,X)) hX ?_
 refine z01 (z0z (fun q:Nat × List Rx × Nat=>⟨44,[(0,.ptr (e0+1,X) 0),(2,.ptr (0,2) 0),(4,.ref (0,1000))],[(1000,.row 51 5 (q.2.1.map rxc)),(2,.box (z5w [Value.int .i64 0,Value.int .i64 0,Value.int .i64 0,z2s,z2s]))],upd H (e0,X) (pbx s (q.2.2:Nat) 0 0)⟩)
  (fun q=>q.2.2≤s.size∧q.1≤N∧szL q.2.1+2*(rst s q.2.2).length≤2*(rst s i).length∧pU q.1 q.2.1 (rst s q.2.2)=T) (fun q=>q.1) ?_ (N,[],i) ⟨hi,zAj _,by simp[szL],hT0⟩) rfl rfl
 clear hT0
 rintro⟨m,acc,j⟩ ⟨i1,i2,i3,i4⟩ ih
 simp only at i1 i2 i3 i4 ih ⊢
 cases m with
 | zero=>rw[pU] at i4;exact absurd i4.symm hne
 | succ m =>
 rw[pU] at i4
 have hal:=zav acc
 have hr:=hC m (by omega) j i1 (e0+1) (fun h=>hne (by rw[← i4,h]))
 have hsf:=(zgt m).2.1 [] (rst s j)
 have hsz:=(y87 m).2.1 [] (rst s j)
 rcases hp:pC m [] (rst s j) with ⟨e,r⟩|⟨a,b⟩|_
 · rw[hp] at hr hsf hsz i4
   obtain⟨k,hk1,hk,rfl⟩:=z5k s _ j r (zAj _) i1 hsf
   rw[z3w hk] at hr
   have hsz:=hsz e _ rfl
   simp only[szL] at i4 hsz
   have hn:=z47 (X:=X) τ s k hk 0 0 (e0+1)
   have hfl:=zhi 3 e
   have hfa:=zdr acc (flat 3 e)
   have hjl:=z5l s _ j (zAj _)
   obtain⟨op,mn,mx,rs,ks⟩:=e
   rw[z9f,z6j] at hr
   have hks:=zav ks
   by_cases h124:nx (rst s k)=124
   · rw[zAz h124] at i4
     obtain⟨hkl,htk,hek⟩:=z2h hk h124 (by decide) (by decide)
     have hkk:=z5r h124 (by decide)
     rw[htk] at i4 hkk
     have ih':=ih (m,acc++flat 3 (.mk op mn mx rs ks),k+1) ⟨hkl,by simp only;omega,by simp only;omega,i4⟩ (by simp only;omega)
     by_cases h2:op=3
     · have hf2:flat 3 (Rx.mk op mn mx rs ks)=ks:=by simp[flat,Rx.op,Rx.ks,h2]
       rw[hf2] at ih' hfl
       simp only at ih'
       subst h2
       repeat' (first|(apply z0f;(refine z2q (z02 _ (e0,X) _) ?_))|(apply z1q;(refine z9y (g:=rxc) rfl rfl rfl rfl rfl z3x rfl rfl (by decide) (by omega) ?_))|(apply z03;(first|refine z1y hr (z02 _ (e0,X) _) (bkT (by repeat (first|exact hT|refine HT.upd ?_ hX0 hX1))) ?_| refine z0p hn (z09 (m:=(e0+1,X)) (z02 _ (e0,X) _) (bkT (by repeat (first|exact hT|refine HT.upd ?_ hX0 hX1)))) ?_))|(apply z0n;(refine z1u (raw':=pbx s ((k+1:Nat):Int) 0 0) (z02 _ (e0,X) _) ?_))|refine z05 ?_|refine fk (fun _=>?_) (fun _=>?_))
       all_goals try (exfalso;omega)
       all_goals ((repeat rw[z0c]);refine z2g 21 1000 ?_;exact z01 ih' rfl rfl)
     · have hf2:flat 3 (Rx.mk op mn mx rs ks)=[Rx.mk op mn mx rs ks]:=by simp[flat,Rx.op,h2]
       rw[hf2] at ih'
       simp only at ih'
       repeat' (first|(apply z0f;(refine z2q (z02 _ (e0,X) _) ?_))|(apply z1q;(first|refine z5n (g:=rxc) rfl rfl (Rx.mk op mn mx rs ks) (by rw[z34];rfl) rfl rfl rfl (z3x _) rfl rfl (by decide) (by omega) ?_|refine z9y (g:=rxc) rfl rfl rfl rfl rfl z3x rfl rfl (by decide) (by omega) ?_))|(apply z03;(first|refine z1y hr (z02 _ (e0,X) _) (bkT (by repeat (first|exact hT|refine HT.upd ?_ hX0 hX1))) ?_| refine z0p hn (z09 (m:=(e0+1,X)) (z02 _ (e0,X) _) (bkT (by repeat (first|exact hT|refine HT.upd ?_ hX0 hX1)))) ?_))|(apply z0n;(refine z1u (raw':=pbx s ((k+1:Nat):Int) 0 0) (z02 _ (e0,X) _) ?_))|refine z05 ?_|refine fk (fun _=>?_) (fun _=>?_))
       all_goals try (exfalso;omega)
       all_goals ((repeat rw[z0c]);refine z2g 25 1000 ?_;exact z01 ih' rfl rfl)
   · rw[zAy h124] at i4
     clear ih
     by_cases h2:op=3
     · have hf2:flat 3 (Rx.mk op mn mx rs ks)=ks:=by simp[flat,Rx.op,Rx.ks,h2]
       rw[hf2] at i4 hfl
       subst h2
       by_cases h1:(acc++ks).length=1
       · obtain⟨x,hx⟩:=List.length_eq_one_iff.1 h1
         rw[hx] at i4
         obtain⟨op',mn',mx',rs',ks'⟩:=x
         rw[← i4,z3w hk,show fin 3 [Rx.mk op' mn' mx' rs' ks']=Rx.mk op' mn' mx' rs' ks' from rfl,z9f,z6j]
         repeat' (first|(apply z0f;(refine z2q (z02 _ (e0,X) _) ?_))|(apply z06;(refine z0b (z38 (u:=rx5 op' mn' mx' rs' ks') rfl (by omega) rfl rfl) rfl rfl ?_))|(apply z1q;(refine z9y (g:=rxc) rfl rfl rfl rfl rfl z3x rfl rfl (by decide) (by omega) ?_))|(apply z03;(first|(refine z0p hn (z09 (m:=(e0+1,X)) (z02 _ (e0,X) _) (bkT (by repeat (first|exact hT|refine HT.upd ?_ hX0 hX1)))) ?_;refine z83 21 rfl ?_;rw[hx,List.map_cons,List.map_nil,z34])|refine z1y hr (z02 _ (e0,X) _) (bkT (by repeat (first|exact hT|refine HT.upd ?_ hX0 hX1))) ?_))|(apply z0n;(refine z1u (raw':=pbx s ((k+1:Nat):Int) 0 0) (z02 _ (e0,X) _) ?_))|refine z05 ?_|refine fk (fun _=>?_) (fun _=>?_))
         all_goals exact zD22
       · rw[zsj h1] at i4
         rw[← i4,z3w hk,z9f,z6j]
         repeat' (first|(apply z0f;(refine z2q (z02 _ (e0,X) _) ?_))|(apply z1q;(refine z9y (g:=rxc) rfl rfl rfl rfl rfl z3x rfl rfl (by decide) (by omega) ?_))|(apply z03;(first|(refine z0p hn (z09 (m:=(e0+1,X)) (z02 _ (e0,X) _) (bkT (by repeat (first|exact hT|refine HT.upd ?_ hX0 hX1)))) ?_;refine z83 21 rfl ?_)|refine z1y hr (z02 _ (e0,X) _) (bkT (by repeat (first|exact hT|refine HT.upd ?_ hX0 hX1))) ?_))|(apply z0n;(refine z1u (raw':=pbx s ((k+1:Nat):Int) 0 0) (z02 _ (e0,X) _) ?_))|refine z05 ?_|refine fk (fun _=>?_) (fun _=>?_))
         all_goals exact zD22
     · have hf2:flat 3 (Rx.mk op mn mx rs ks)=[Rx.mk op mn mx rs ks]:=by simp[flat,Rx.op,h2]
       rw[hf2] at i4
       by_cases h1:(acc++[Rx.mk op mn mx rs ks]).length=1
       · obtain⟨x,hx⟩:=List.length_eq_one_iff.1 h1
         rw[hx] at i4
         obtain⟨op',mn',mx',rs',ks'⟩:=x
         rw[← i4,z3w hk,show fin 3 [Rx.mk op' mn' mx' rs' ks']=Rx.mk op' mn' mx' rs' ks' from rfl,z9f,z6j]
         repeat' (first|(apply z0f;(refine z2q (z02 _ (e0,X) _) ?_))|(apply z06;(refine z0b (z38 (u:=rx5 op' mn' mx' rs' ks') rfl (by omega) rfl rfl) rfl rfl ?_))|(apply z1q;(first|refine z5n (g:=rxc) rfl rfl (Rx.mk op mn mx rs ks) (by rw[z34];rfl) rfl rfl rfl (z3x _) rfl rfl (by decide) (by omega) ?_|refine z9y (g:=rxc) rfl rfl rfl rfl rfl z3x rfl rfl (by decide) (by omega) ?_))|(apply z03;(first|(refine z0p hn (z09 (m:=(e0+1,X)) (z02 _ (e0,X) _) (bkT (by repeat (first|exact hT|refine HT.upd ?_ hX0 hX1)))) ?_;refine z83 25 rfl ?_;rw[hx,List.map_cons,List.map_nil,z34])|refine z1y hr (z02 _ (e0,X) _) (bkT (by repeat (first|exact hT|refine HT.upd ?_ hX0 hX1))) ?_| refine z0p hn (z09 (m:=(e0+1,X)) (z02 _ (e0,X) _) (bkT (by repeat (first|exact hT|refine HT.upd ?_ hX0 hX1)))) ?_))|(apply z0n;(refine z1u (raw':=pbx s ((k+1:Nat):Int) 0 0) (z02 _ (e0,X) _) ?_))|refine z05 ?_|refine fk (fun _=>?_) (fun _=>?_))
         all_goals exact zD22
       · rw[zsj h1] at i4
         rw[← i4,z3w hk,z9f,z6j]
         repeat' (first|(apply z0f;(refine z2q (z02 _ (e0,X) _) ?_))|(apply z1q;(first|refine z5n (g:=rxc) rfl rfl (Rx.mk op mn mx rs ks) (by rw[z34];rfl) rfl rfl rfl (z3x _) rfl rfl (by decide) (by omega) ?_|refine z9y (g:=rxc) rfl rfl rfl rfl rfl z3x rfl rfl (by decide) (by omega) ?_))|(apply z03;(first|(refine z0p hn (z09 (m:=(e0+1,X)) (z02 _ (e0,X) _) (bkT (by repeat (first|exact hT|refine HT.upd ?_ hX0 hX1)))) ?_;refine z83 25 rfl ?_)|refine z1y hr (z02 _ (e0,X) _) (bkT (by repeat (first|exact hT|refine HT.upd ?_ hX0 hX1))) ?_| refine z0p hn (z09 (m:=(e0+1,X)) (z02 _ (e0,X) _) (bkT (by repeat (first|exact hT|refine HT.upd ?_ hX0 hX1)))) ?_))|(apply z0n;(refine z1u (raw':=pbx s ((k+1:Nat):Int) 0 0) (z02 _ (e0,X) _) ?_))|refine z05 ?_|refine fk (fun _=>?_) (fun _=>?_))
         all_goals exact zD22
 · rw[hp] at hr i4
   simp only at i4
   rw[← i4,z9f,z4e]
   rw[z9f,z4e] at hr
   repeat' (first|(apply z03;(refine z1y hr (z02 _ (e0,X) _) (bkT (by repeat (first|exact hT|refine HT.upd ?_ hX0 hX1))) ?_))|refine z05 ?_|fail)
   all_goals exact zD22
 · rw[hp] at i4;exact absurd i4.symm hne
theorem y2o (N:Nat):HU X τ s N:=by
 induction N using Nat.strongRecOn with
 | _ N ih =>
  refine y3i hX0 hX1 τ s hs N fun m hm=>zvo hX0 hX1 τ s hs m fun k hk=>?_
  match k,hk with
  | 0,_=>intro i hi h0 e0 h;exact absurd (by rw[pR]) h
  | 1,_=>intro i hi h0 e0 h;exact absurd (by rw[pR,pA]) h
  | k+2,hk=>exact zwl hX0 hX1 τ s hs k (y6x hX0 hX1 τ s hs k (ih k (by omega)))
end
theorem y6a (N:Nat) (hN:N≤9223372036854775807):(∀ e:Rx,sz e≤N→Rx.rsB N e→fit e)∧∀ l:List Rx,szL l≤N→zf8 N l→zt4 l:=by
 refine Rx.ind (fun op mn mx rs ks ih h1 h2=>?_) (fun _ _=>by rw[zt4];trivial) (fun k ks ihk ih h1 h2=>?_)
 · rw[sz] at h1
   rw[Rx.rsB] at h2
   have:=zav ks
   rw[fit]
   exact⟨by omega,by omega,ih (by omega) h2.2⟩
 · rw[szL] at h1
   rw[zf8] at h2
   rw[zt4]
   exact⟨ihk (by omega) h2.1,ih (by omega) h2.2⟩
theorem y5p {C D:Nat} (h:C≤D):∀ {e:Rx},Rx.rsB C e→Rx.rsB D e :=
 fun {e}=>(Rx.ind (p:=fun e=>Rx.rsB C e→Rx.rsB D e) (q:=fun l=>zf8 C l→zf8 D l) (fun op mn mx rs ks ih h1=>by
  rw[Rx.rsB] at h1 ⊢;exact⟨Nat.le_trans h1.1 h,ih h1.2⟩) (fun _=>by rw[zf8];trivial) (fun k ks ihk ih h1=>by
  rw[zf8] at h1 ⊢;exact⟨ihk h1.1,ih h1.2⟩)).1 e
theorem zhd {P:Program} {f:FuncId} {R:z3b} {k:List Item} {all:Array Oper} {l:List Oper} {n:Nat} {tm:List (Nat × PV)} {hp:Hp} {up:Hf} {d:Nat} {ty:TypeId} {pos:String} {aft:Array Edge} {gd:Option (Nat × Bool)} {p:PV} {g:FuncId} {args:List Operand} {ps:List PV} {ats:Array TypeId} {ms:Nat} {b b':Blk} {bs:List (Nm × Blk)}
 (hsp:z0y P g ps (((0,ms),b)::bs) [((0,ms),b')] p) (hev:St.evs ⟨n,tm,hp,up⟩ args=some ps) (hb:Ab.look hp ms=some b) (hbs:BkE ⟨n,tm,hp,up⟩ bs) (hd:d<n)
 (h:Ops P f R all l k ⟨n,(d,p)::tm,(ms,b')::hp,up⟩):Op1 P f R all ⟨some d,.call ⟨.value (.func g),args.toArray,ats⟩,ty,pos,aft,gd⟩ l k ⟨n,tm,hp,up⟩ :=
 zji hsp hev (z09 (m:=(0,ms)) hb hbs) hd rfl h
def zpk (u:Un):Bool:=decide (u.1=65533)&&decide (u.2.2=1)
def zdx (s:ByteArray):Rx × Int × Int :=
 if 200<s.size then (zeh,0,2) else match (unF 0 (rst s 0)).find? zpk with
  | some u=>(zeh,u.2.1,7)
  | none=>zdf s.size (rst s 0)
theorem zq5:∀ (l:List U) (i:Nat),(unF i l).length=l.length
 | [],i=>rfl
 | u::l,i=>by rw[unF,zAk,zAk,zq5 l]
theorem zu0 (τ:Tab) (s:ByteArray) (hs:s.size≤1000000):z0y Tryz.prog 47 [S s] (zew τ 0) [] (.tup [.d (eX (zdx s).1),I .i64 (zdx s).2.1,I .i64 (zdx s).2.2]):=by
 refine z11 fun H hH=>?_
 have hT:HT τ 0 H:=HT.of (bs:=[]) hH
 refine z0a Tryz.func47 (by kernel_rfl) rfl (by simp) ?_
 dsimp only[Tryz.f47]
 by_cases h200:200<s.size
 · rw[zdx,zAz h200,z4e]
   repeat' (first|refine z05 ?_|refine fk (fun _=>?_) (fun _=>?_))
   all_goals exact zD46
 rw[zdx,zAy h200]
 repeat' (first|refine z05 ?_|refine fk (fun _=>?_) (fun _=>?_))
 all_goals try (exfalso;omega)
 obtain⟨L,hL⟩:∃ L,unF 0 (rst s 0)=L:=⟨_,rfl⟩
 have hLl:L.length≤s.size:=by rw[← hL,zq5];have:=z5l s _ 0 (zAj _);omega
 rw[hL]
 refine z0j ?_
 refine z01 (z0z (fun q:Nat=>⟨66,[(0,S s),(2,.ptr (0,2) 0),(5,I .i64 (q:Nat))],[(2,.box (z5w [Value.int .i64 0,Value.int .i64 0,Value.int .i64 0,z2s,z2s]))],H⟩)
  (fun q=>q≤L.length∧(L.drop q).find? zpk=L.find? zpk) (fun q=>L.length-q) ?_ 0 ⟨zAf _,rfl⟩) rfl rfl
 intro q ⟨i1,i2⟩ ih
 have hat:=yb3 s hs q (by omega)
 rw[atR,hL] at hat
 by_cases hlt:q<L.length
 · obtain⟨u,hu⟩:∃ u,L[q]? =some u:=⟨_,zA0 hlt⟩
   rw[hu] at hat
   simp only at hat
   rw[drop_cons hu,List.find?_cons] at i2
   cases hb:zpk u with
   | true =>
    rw[hb] at i2
    simp only at i2
    rw[← i2]
    simp only[zpk,zA7,zA3] at hb
    obtain⟨hb1,hb2⟩:=hb
    simp only
    rw[z4e]
    repeat' (first|(apply z03;(refine z1i hat ?_))|refine z05 ?_|refine fk (fun _=>?_) (fun _=>?_))
    all_goals exact zD46
   | false =>
    rw[hb] at i2
    simp only at i2
    have hnb:¬ (u.1=65533∧u.2.2=1):=fun h=>by
     simp only[zpk,h.1,h.2] at hb;simp at hb
    repeat' (first|(apply z03;(refine z1i hat ?_))|refine z05 ?_|refine fk (fun _=>?_) (fun _=>?_))
    all_goals try (exfalso;omega)
    all_goals exact z01 (ih (q+1) ⟨by omega,i2⟩ (by omega)) rfl rfl
 · obtain rfl:q=L.length:=by omega
   rw[zAv (zAj _)] at hat
   simp only at hat
   rw[zAs,List.find?_nil] at i2
   rw[← i2]
   simp only
   clear ih
   have hil:=z5l s _ 0 (zAj _)
   obtain⟨N,hN⟩:∃ N,4*(rst s 0).length+4=N:=⟨_,rfl⟩
   have hne:=(yal N).1 [] (rst s 0) (by omega)
   have hu:=y2o (X:=10) (by decide) (by decide) τ s hs N 0 (zAf _) 0 hne
   have hsf:=(zgt N).1 [] (rst s 0)
   have hsz:=(y87 N).1 [] (rst s 0)
   have hrs:=(yan 1000001 N).1 [] (rst s 0)
   rcases hp:pU N [] (rst s 0) with ⟨e,r⟩|⟨a,b⟩|_
   · rw[hp] at hu hsf hsz hrs
     obtain⟨j,hj1,hj,rfl⟩:=z5k s _ 0 r (zAj _) (zAf _) hsf
     have hsz:=hsz e _ rfl
     have hrs:=hrs e _ (by omega) (by rw[zf8];trivial) rfl
     simp only[szL] at hsz
     have hfit:fit e:=(y6a 3000000 (by decide)).1 e (by omega) (y5p (C:=1000001) (D:=3000000) (by decide) hrs)
     have hv:=z86 e hfit
     rw[z3w hj] at hu
     obtain⟨op,mn,mx,rs,ks⟩:=e
     rw[z9f,z6j] at hu
     rw[show Drx (.mk op mn mx rs ks)=.agg (rx5 op mn mx rs ks) from z6j op mn mx rs ks] at hv
     by_cases hjl:j<s.size
     · have hq:zdf s.size (rst s 0)=(zeh,(j:Int),3):=by
        have hsj:=zc5 hj
        rw[zdf,hN,hp,z2z hjl]
        simp only
        rw[← z2z hjl,hsj]
        simp;omega
       have hf:=z5q (X:=10) s (I .i64 (j:Nat)) (j:Nat) 3 0 (by decide)
       rw[hq,z4e]
       repeat' (first|(apply z03;(first|refine zhd hu rfl rfl (bkT hT) (by decide) ?_|refine z1i hat ?_| refine z3y hf ?_))|refine z05 ?_|refine fk (fun _=>?_) (fun _=>?_))
       all_goals exact zD46
     · have hq:zdf s.size (rst s 0)=if val (.mk op mn mx rs ks)≠0 then (zeh,0,2) else (.mk op mn mx rs ks,0,0):=by
        rw[zdf,hN,hp,z1w (by omega)]
       rw[hq]
       by_cases hv0:val (.mk op mn mx rs ks)≠0
       · rw[zAz hv0,z4e]
         all_goals exact zD119
       · rw[zAy hv0,z6j]
         have hv1:val (.mk op mn mx rs ks)=0:=Classical.not_not.1 hv0
         rw[hv1] at hv
         all_goals exact zD119
   · rw[hp] at hu hsf
     have hq:zdf s.size (rst s 0)=(zeh,(s.size:Int)-bts a,b):=by rw[zdf,hN,hp]
     obtain⟨j,hj1,hj,rfl⟩:=z5k s _ 0 a (zAj _) (zAf _) hsf
     have hsj:=zc5 hj
     rw[z5f hj] at hu
     rw[hq,hsj,show (s.size:Int)-((s.size-j:Nat):Int)=(j:Nat) by omega,z4e]
     rw[z9f,z4e] at hu
     repeat' (first|(apply z03;(first|refine zhd hu rfl rfl (bkT hT) (by decide) ?_|refine z1i hat ?_))|refine z05 ?_|fail)
     all_goals exact zD46
   · exact absurd hp hne
end Go.Proofs.YtmcggompdmngmaaGreatDoor
