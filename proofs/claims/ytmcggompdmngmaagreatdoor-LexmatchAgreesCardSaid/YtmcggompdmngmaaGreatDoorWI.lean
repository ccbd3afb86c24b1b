/- A part of the proof: G14 to G18. -/
import Derived.Test.YtmcggompdmngmaaGreatDoorWc
import Derived.Test.YtmcggompdmngmaaGreatDoorWH
import Derived.Test.YtmcggompdmngmaaGreatDoorWr
import Derived.Test.YtmcggompdmngmaaGreatDoorWx
set_option linter.all false
namespace Go.Proofs.YtmcggompdmngmaaGreatDoor
open Go.Ab Go.Rx
set_option maxHeartbeats 20000000
set_option maxRecDepth 100000
attribute [local irreducible] Run Ops Op1 z14 Val Tr z0d z0w NF Rel z1z z27
theorem zu0 {o:Int} {l:List Rx} (h:l.length≠1):fin o l=.mk o 0 0 [] l:=by
 match l,h with
 | [],_=>rfl
 | [e],h=>simp at h
 | a::b::l,_=>rfl
section
variable {X:Nat} (hX0:X≠700) (hX1:X≠701) (τ:Tab) (s:ByteArray) (hs:s.size≤1000000)
include hX0 hX1 hs
theorem zwu (N:Nat) (hR:∀ m,m<N→HR X τ s m):HC X τ s N:=by
 intro i hi e0 hne
 refine z10 fun H hH=>?_
 have hX:H e0 X=some (pbx s i 0 0):=hH ((e0,X),pbx s i 0 0) (by simp)
 have hT:HT τ (e0+1) H:=HT.of (bs:=[((e0,X),pbx s i 0 0)]) hH
 refine z08 Tryz.func128 (by kernel_rfl) rfl (by simp) ?_
 dsimp only[Tryz.f128]
 have hn:=z42 (X:=X) τ s i hi 0 0 (e0+1)
 have hil:=z6v s _ i (zAj _)
 obtain⟨T,hT0⟩:∃ T,pC N [] (rst s i)=T:=⟨_,rfl⟩
 rw[hT0] at hne ⊢
 repeat' (first|(apply z03;(refine z0s hn (z07 (m:=(e0+1,X)) hX (bkT (by repeat (first|exact hT|refine HT.upd ?_ hX0 hX1)))) ?_))|refine z05 ?_|fail)
 all_goals try (exfalso;omega)
 refine z1t 4 1000 51 5 rfl rfl rfl ?_
 refine z0l ?_
 refine zqq (m:=(e0,X)) hX ?_
 refine z01 (z0x (fun q:Nat × List Rx × Nat=>⟨49,[(0,.ptr (e0+1,X) 0),(2,.ptr (0,2) 0),(4,.ref (0,1000)),(5,I .i32 (nx (rst s q.2.2)))],[(1000,.row 51 5 (q.2.1.map rxc)),(2,.box (z5v [Value.int .i64 0,Value.int .i64 0,Value.int .i64 0,z2w,z2w]))],upd H (e0,X) (pbx s (q.2.2:Nat) 0 0)⟩)
  (fun q=>q.2.2≤s.size∧q.1≤N∧szL q.2.1+2*(rst s q.2.2).length≤2*(rst s i).length∧pC q.1 q.2.1 (rst s q.2.2)=T) (fun q=>q.1) ?_ (N,[],i) ⟨hi,zAj _,by simp[szL],hT0⟩) rfl rfl
 clear hT0 hn
 rintro⟨m,acc,j⟩ ⟨i1,i2,i3,i4⟩ ih
 simp only at i1 i2 i3 i4 ih ⊢
 cases m with
 | zero=>rw[pC] at i4;exact absurd i4.symm hne
 | succ m =>
 rw[pC] at i4
 have hal:=zaq acc
 have hrg:=zmm s j
 by_cases hend:nx (rst s j)<0∨nx (rst s j)=124∨nx (rst s j)=41
 · rw[zAz hend] at i4
   rw[← i4,z3u i1]
   by_cases h1:acc.length=1
   · obtain⟨x,rfl⟩:=List.length_eq_one_iff.1 h1
     obtain⟨op,mn,mx,rs,ks⟩:=x
     rw[show fin 2 [Rx.mk op mn mx rs ks]=Rx.mk op mn mx rs ks from rfl,z96,z6g,List.map_cons,List.map_nil,z2k]
     clear ih
     refine z13 1000 rfl ?_
     repeat' (first|(apply z09;(refine z0c (z3a (u:=rx5 op mn mx rs ks) rfl (by omega) rfl rfl) rfl rfl ?_))|refine z05 ?_|refine fk (fun _=>?_) (fun _=>?_))
     all_goals exact zD45
   · rw[zu0 h1,z96,z6g]
     clear ih
     refine z13 1000 rfl ?_
     repeat' (first|refine z05 ?_|refine fk (fun _=>?_) (fun _=>?_))
     all_goals exact zD45
 · rw[zAy hend] at i4
   have hr:=hR m (by omega) j i1 (by omega) (e0+1) (fun h=>hne (by rw[← i4,h]))
   have hsf:=((zge m).2.2.1 (rst s j)).1
   have hsz:=(y8u m).2.2.1 (rst s j)
   rcases hp:pR m (rst s j) with ⟨e,r⟩|⟨a,b⟩|_
   · rw[hp] at hr hsf hsz i4
     obtain⟨k,hk1,hk,rfl⟩:=z5e s _ j r (zAj _) i1 hsf
     rw[z3u hk] at hr
     have hsz:=hsz e _ rfl
     simp only at i4
     have hn:=z42 (X:=X) τ s k hk 0 0 (e0+1)
     have hfl:=zfq 2 e
     have hfa:=ze2 acc (flat 2 e)
     obtain⟨op,mn,mx,rs,ks⟩:=e
     rw[z96,z6g] at hr
     have hks:=zaq ks
     have ih':=ih (m,acc++flat 2 (.mk op mn mx rs ks),k) ⟨hk,by simp only;omega,by simp only;omega,i4⟩ (by simp only;omega)
     by_cases h2:op=2
     · have hf2:flat 2 (Rx.mk op mn mx rs ks)=ks:=by simp[flat,Rx.op,Rx.ks,h2]
       rw[hf2] at ih' hfl
       simp only at ih'
       subst h2
       have hn2:=hn
       repeat' (first|(apply z1q;(refine zaa (g:=rxc) rfl rfl rfl rfl rfl z3k rfl rfl (by decide) (by omega) ?_))|(apply z03;(first|refine z1v hr (z02 _ (e0,X) _) (bkT (by repeat (first|exact hT|refine HT.upd ?_ hX0 hX1))) ?_| refine z0s hn2 (z07 (m:=(e0+1,X)) (z02 _ (e0,X) _) (bkT (by repeat (first|exact hT|refine HT.upd ?_ hX0 hX1)))) ?_))|refine z05 ?_|refine fk (fun _=>?_) (fun _=>?_))
       all_goals try (exfalso;omega)
       all_goals ((repeat rw[z0a]);refine z2i 36 1000 ?_;exact z01 ih' rfl rfl)
     · have hf2:flat 2 (Rx.mk op mn mx rs ks)=[Rx.mk op mn mx rs ks]:=by simp[flat,Rx.op,h2]
       rw[hf2] at ih'
       simp only at ih'
       have hn2:=hn
       repeat' (first|(apply z1q;(first|refine z6h (g:=rxc) rfl rfl (Rx.mk op mn mx rs ks) (by rw[z2k];rfl) rfl rfl rfl (z3k _) rfl rfl (by decide) (by omega) ?_|refine zaa (g:=rxc) rfl rfl rfl rfl rfl z3k rfl rfl (by decide) (by omega) ?_))|(apply z03;(first|refine z1v hr (z02 _ (e0,X) _) (bkT (by repeat (first|exact hT|refine HT.upd ?_ hX0 hX1))) ?_| refine z0s hn2 (z07 (m:=(e0+1,X)) (z02 _ (e0,X) _) (bkT (by repeat (first|exact hT|refine HT.upd ?_ hX0 hX1)))) ?_))|refine z05 ?_|refine fk (fun _=>?_) (fun _=>?_))
       all_goals try (exfalso;omega)
       all_goals ((repeat rw[z0a]);refine z2i 40 1000 ?_;exact z01 ih' rfl rfl)
   · rw[hp] at hr i4
     simp only at i4
     rw[← i4,z96,z4a]
     rw[z96,z4a] at hr
     repeat' (first|(apply z03;(refine z1v hr (z02 _ (e0,X) _) (bkT (by repeat (first|exact hT|refine HT.upd ?_ hX0 hX1))) ?_))|refine z05 ?_|refine fk (fun _=>?_) (fun _=>?_))
     all_goals exact zD45
   · rw[hp] at i4;exact absurd i4.symm hne
end
section
variable {X:Nat} (hX0:X≠700) (hX1:X≠701) (τ:Tab) (s:ByteArray) (hs:s.size≤1000000)
include hX0 hX1 hs
theorem y45 (N:Nat) (hC:∀ m,m<N→HC X τ s m):HU X τ s N:=by
 intro i hi e0 hne
 refine z10 fun H hH=>?_
 have hX:H e0 X=some (pbx s i 0 0):=hH ((e0,X),pbx s i 0 0) (by simp)
 have hT:HT τ (e0+1) H:=HT.of (bs:=[((e0,X),pbx s i 0 0)]) hH
 refine z08 Tryz.func87 (by kernel_rfl) rfl (by simp) ?_
 dsimp only[Tryz.f87]
 have hil:=z6v s _ i (zAj _)
 obtain⟨T,hT0⟩:∃ T,pU N [] (rst s i)=T:=⟨_,rfl⟩
 rw[hT0] at hne ⊢
 repeat' (first|refine z05 ?_|fail)
 all_goals try (exfalso;omega)
 refine z1t 4 1000 51 5 rfl rfl rfl ?_
 refine z0l ?_
 refine zqq (m:=(e0,X)) hX ?_
 refine z01 (z0x (fun q:Nat × List Rx × Nat=>⟨44,[(0,.ptr (e0+1,X) 0),(2,.ptr (0,2) 0),(4,.ref (0,1000))],[(1000,.row 51 5 (q.2.1.map rxc)),(2,.box (z5v [Value.int .i64 0,Value.int .i64 0,Value.int .i64 0,z2w,z2w]))],upd H (e0,X) (pbx s (q.2.2:Nat) 0 0)⟩)
  (fun q=>q.2.2≤s.size∧q.1≤N∧szL q.2.1+2*(rst s q.2.2).length≤2*(rst s i).length∧pU q.1 q.2.1 (rst s q.2.2)=T) (fun q=>q.1) ?_ (N,[],i) ⟨hi,zAj _,by simp[szL],hT0⟩) rfl rfl
 clear hT0
 rintro⟨m,acc,j⟩ ⟨i1,i2,i3,i4⟩ ih
 simp only at i1 i2 i3 i4 ih ⊢
 cases m with
 | zero=>rw[pU] at i4;exact absurd i4.symm hne
 | succ m =>
 rw[pU] at i4
 have hal:=zaq acc
 have hr:=hC m (by omega) j i1 (e0+1) (fun h=>hne (by rw[← i4,h]))
 have hsf:=(zge m).2.1 [] (rst s j)
 have hsz:=(y8u m).2.1 [] (rst s j)
 rcases hp:pC m [] (rst s j) with ⟨e,r⟩|⟨a,b⟩|_
 · rw[hp] at hr hsf hsz i4
   obtain⟨k,hk1,hk,rfl⟩:=z5e s _ j r (zAj _) i1 hsf
   rw[z3u hk] at hr
   have hsz:=hsz e _ rfl
   simp only[szL] at i4 hsz
   have hn:=z42 (X:=X) τ s k hk 0 0 (e0+1)
   have hfl:=zfq 3 e
   have hfa:=ze2 acc (flat 3 e)
   have hjl:=z6v s _ j (zAj _)
   obtain⟨op,mn,mx,rs,ks⟩:=e
   rw[z96,z6g] at hr
   have hks:=zaq ks
   by_cases h124:nx (rst s k)=124
   · rw[zAz h124] at i4
     obtain⟨hkl,htk,hek⟩:=z2e hk h124 (by decide) (by decide)
     have hkk:=z5s h124 (by decide)
     rw[htk] at i4 hkk
     have ih':=ih (m,acc++flat 3 (.mk op mn mx rs ks),k+1) ⟨hkl,by simp only;omega,by simp only;omega,i4⟩ (by simp only;omega)
     by_cases h2:op=3
     · have hf2:flat 3 (Rx.mk op mn mx rs ks)=ks:=by simp[flat,Rx.op,Rx.ks,h2]
       rw[hf2] at ih' hfl
       simp only at ih'
       subst h2
       repeat' (first|(apply z0i;(refine z2r (z02 _ (e0,X) _) ?_))|(apply z1q;(refine zaa (g:=rxc) rfl rfl rfl rfl rfl z3k rfl rfl (by decide) (by omega) ?_))|(apply z03;(first|refine z1v hr (z02 _ (e0,X) _) (bkT (by repeat (first|exact hT|refine HT.upd ?_ hX0 hX1))) ?_| refine z0s hn (z07 (m:=(e0+1,X)) (z02 _ (e0,X) _) (bkT (by repeat (first|exact hT|refine HT.upd ?_ hX0 hX1)))) ?_))|(apply z0o;(refine z1r (raw':=pbx s ((k+1:Nat):Int) 0 0) (z02 _ (e0,X) _) ?_))|refine z05 ?_|refine fk (fun _=>?_) (fun _=>?_))
       all_goals try (exfalso;omega)
       all_goals ((repeat rw[z0a]);refine z2i 21 1000 ?_;exact z01 ih' rfl rfl)
     · have hf2:flat 3 (Rx.mk op mn mx rs ks)=[Rx.mk op mn mx rs ks]:=by simp[flat,Rx.op,h2]
       rw[hf2] at ih'
       simp only at ih'
       repeat' (first|(apply z0i;(refine z2r (z02 _ (e0,X) _) ?_))|(apply z1q;(first|refine z6h (g:=rxc) rfl rfl (Rx.mk op mn mx rs ks) (by rw[z2k];rfl) rfl rfl rfl (z3k _) rfl rfl (by decide) (by omega) ?_|refine zaa (g:=rxc) rfl rfl rfl rfl rfl z3k rfl rfl (by decide) (by omega) ?_))|(apply z03;(first|refine z1v hr (z02 _ (e0,X) _) (bkT (by repeat (first|exact hT|refine HT.upd ?_ hX0 hX1))) ?_| refine z0s hn (z07 (m:=(e0+1,X)) (z02 _ (e0,X) _) (bkT (by repeat (first|exact hT|refine HT.upd ?_ hX0 hX1)))) ?_))|(apply z0o;(refine z1r (raw':=pbx s ((k+1:Nat):Int) 0 0) (z02 _ (e0,X) _) ?_))|refine z05 ?_|refine fk (fun _=>?_) (fun _=>?_))
       all_goals try (exfalso;omega)
       all_goals ((repeat rw[z0a]);refine z2i 25 1000 ?_;exact z01 ih' rfl rfl)
   · rw[zAy h124] at i4
     clear ih
     by_cases h2:op=3
     · have hf2:flat 3 (Rx.mk op mn mx rs ks)=ks:=by simp[flat,Rx.op,Rx.ks,h2]
       rw[hf2] at i4 hfl
       subst h2
       by_cases h1:(acc++ks).length=1
       · obtain⟨x,hx⟩:=List.length_eq_one_iff.1 h1
         rw[hx] at i4
         obtain⟨op',mn',mx',rs',ks'⟩:=x
         rw[← i4,z3u hk,show fin 3 [Rx.mk op' mn' mx' rs' ks']=Rx.mk op' mn' mx' rs' ks' from rfl,z96,z6g]
         repeat' (first|(apply z0i;(refine z2r (z02 _ (e0,X) _) ?_))|(apply z09;(refine z0c (z3a (u:=rx5 op' mn' mx' rs' ks') rfl (by omega) rfl rfl) rfl rfl ?_))|(apply z1q;(refine zaa (g:=rxc) rfl rfl rfl rfl rfl z3k rfl rfl (by decide) (by omega) ?_))|(apply z03;(first|(refine z0s hn (z07 (m:=(e0+1,X)) (z02 _ (e0,X) _) (bkT (by repeat (first|exact hT|refine HT.upd ?_ hX0 hX1)))) ?_;refine z84 21 rfl ?_;rw[hx,List.map_cons,List.map_nil,z2k])|refine z1v hr (z02 _ (e0,X) _) (bkT (by repeat (first|exact hT|refine HT.upd ?_ hX0 hX1))) ?_))|(apply z0o;(refine z1r (raw':=pbx s ((k+1:Nat):Int) 0 0) (z02 _ (e0,X) _) ?_))|refine z05 ?_|refine fk (fun _=>?_) (fun _=>?_))
         all_goals exact zD23
       · rw[zu0 h1] at i4
         rw[← i4,z3u hk,z96,z6g]
         repeat' (first|(apply z0i;(refine z2r (z02 _ (e0,X) _) ?_))|(apply z1q;(refine zaa (g:=rxc) rfl rfl rfl rfl rfl z3k rfl rfl (by decide) (by omega) ?_))|(apply z03;(first|(refine z0s hn (z07 (m:=(e0+1,X)) (z02 _ (e0,X) _) (bkT (by repeat (first|exact hT|refine HT.upd ?_ hX0 hX1)))) ?_;refine z84 21 rfl ?_)|refine z1v hr (z02 _ (e0,X) _) (bkT (by repeat (first|exact hT|refine HT.upd ?_ hX0 hX1))) ?_))|(apply z0o;(refine z1r (raw':=pbx s ((k+1:Nat):Int) 0 0) (z02 _ (e0,X) _) ?_))|refine z05 ?_|refine fk (fun _=>?_) (fun _=>?_))
         all_goals exact zD23
     · have hf2:flat 3 (Rx.mk op mn mx rs ks)=[Rx.mk op mn mx rs ks]:=by simp[flat,Rx.op,h2]
       rw[hf2] at i4
       by_cases h1:(acc++[Rx.mk op mn mx rs ks]).length=1
       · obtain⟨x,hx⟩:=List.length_eq_one_iff.1 h1
         rw[hx] at i4
         obtain⟨op',mn',mx',rs',ks'⟩:=x
         rw[← i4,z3u hk,show fin 3 [Rx.mk op' mn' mx' rs' ks']=Rx.mk op' mn' mx' rs' ks' from rfl,z96,z6g]
         repeat' (first|(apply z0i;(refine z2r (z02 _ (e0,X) _) ?_))|(apply z09;(refine z0c (z3a (u:=rx5 op' mn' mx' rs' ks') rfl (by omega) rfl rfl) rfl rfl ?_))|(apply z1q;(first|refine z6h (g:=rxc) rfl rfl (Rx.mk op mn mx rs ks) (by rw[z2k];rfl) rfl rfl rfl (z3k _) rfl rfl (by decide) (by omega) ?_|refine zaa (g:=rxc) rfl rfl rfl rfl rfl z3k rfl rfl (by decide) (by omega) ?_))|(apply z03;(first|(refine z0s hn (z07 (m:=(e0+1,X)) (z02 _ (e0,X) _) (bkT (by repeat (first|exact hT|refine HT.upd ?_ hX0 hX1)))) ?_;refine z84 25 rfl ?_;rw[hx,List.map_cons,List.map_nil,z2k])|refine z1v hr (z02 _ (e0,X) _) (bkT (by repeat (first|exact hT|refine HT.upd ?_ hX0 hX1))) ?_| refine z0s hn (z07 (m:=(e0+1,X)) (z02 _ (e0,X) _) (bkT (by repeat (first|exact hT|refine HT.upd ?_ hX0 hX1)))) ?_))|(apply z0o;(refine z1r (raw':=pbx s ((k+1:Nat):Int) 0 0) (z02 _ (e0,X) _) ?_))|refine z05 ?_|refine fk (fun _=>?_) (fun _=>?_))
         all_goals exact zD23
       · rw[zu0 h1] at i4
         rw[← i4,z3u hk,z96,z6g]
         repeat' (first|(apply z0i;(refine z2r (z02 _ (e0,X) _) ?_))|(apply z1q;(first|refine z6h (g:=rxc) rfl rfl (Rx.mk op mn mx rs ks) (by rw[z2k];rfl) rfl rfl rfl (z3k _) rfl rfl (by decide) (by omega) ?_|refine zaa (g:=rxc) rfl rfl rfl rfl rfl z3k rfl rfl (by decide) (by omega) ?_))|(apply z03;(first|(refine z0s hn (z07 (m:=(e0+1,X)) (z02 _ (e0,X) _) (bkT (by repeat (first|exact hT|refine HT.upd ?_ hX0 hX1)))) ?_;refine z84 25 rfl ?_)|refine z1v hr (z02 _ (e0,X) _) (bkT (by repeat (first|exact hT|refine HT.upd ?_ hX0 hX1))) ?_| refine z0s hn (z07 (m:=(e0+1,X)) (z02 _ (e0,X) _) (bkT (by repeat (first|exact hT|refine HT.upd ?_ hX0 hX1)))) ?_))|(apply z0o;(refine z1r (raw':=pbx s ((k+1:Nat):Int) 0 0) (z02 _ (e0,X) _) ?_))|refine z05 ?_|refine fk (fun _=>?_) (fun _=>?_))
         all_goals exact zD23
 · rw[hp] at hr i4
   simp only at i4
   rw[← i4,z96,z4a]
   rw[z96,z4a] at hr
   repeat' (first|(apply z03;(refine z1v hr (z02 _ (e0,X) _) (bkT (by repeat (first|exact hT|refine HT.upd ?_ hX0 hX1))) ?_))|refine z05 ?_|fail)
   all_goals exact zD23
 · rw[hp] at i4;exact absurd i4.symm hne
theorem y4m (N:Nat):HU X τ s N:=by
 induction N using Nat.strongRecOn with
 | _ N ih =>
  refine y45 hX0 hX1 τ s hs N fun m hm=>zwu hX0 hX1 τ s hs m fun k hk=>?_
  match k,hk with
  | 0,_=>intro i hi h0 e0 h;exact absurd (by rw[pR]) h
  | 1,_=>intro i hi h0 e0 h;exact absurd (by rw[pR,pA]) h
  | k+2,hk=>exact zwx hX0 hX1 τ s hs k (y5l hX0 hX1 τ s hs k (ih k (by omega)))
end
theorem y7p (N:Nat) (hN:N≤9223372036854775807):(∀ e:Rx,sz e≤N→Rx.rsB N e→fit e)∧∀ l:List Rx,szL l≤N→zfm N l→zl2 l:=by
 refine Rx.ind (fun op mn mx rs ks ih h1 h2=>?_) (fun _ _=>by rw[zl2];trivial) (fun k ks ihk ih h1 h2=>?_)
 · rw[sz] at h1
   rw[Rx.rsB] at h2
   have:=zaq ks
   rw[fit]
   exact⟨by omega,by omega,ih (by omega) h2.2⟩
 · rw[szL] at h1
   rw[zfm] at h2
   rw[zl2]
   exact⟨ihk (by omega) h2.1,ih (by omega) h2.2⟩
theorem y8b {C D:Nat} (h:C≤D):∀ {e:Rx},Rx.rsB C e→Rx.rsB D e :=
 fun {e}=>(Rx.ind (p:=fun e=>Rx.rsB C e→Rx.rsB D e) (q:=fun l=>zfm C l→zfm D l) (fun op mn mx rs ks ih h1=>by
  rw[Rx.rsB] at h1 ⊢;exact⟨Nat.le_trans h1.1 h,ih h1.2⟩) (fun _=>by rw[zfm];trivial) (fun k ks ihk ih h1=>by
  rw[zfm] at h1 ⊢;exact⟨ihk h1.1,ih h1.2⟩)).1 e
theorem zgm {P:Program} {f:FuncId} {R:z3b} {k:List Item} {all:Array Oper} {l:List Oper} {n:Nat} {tm:List (Nat × PV)} {hp:Hp} {up:Hf} {d:Nat} {ty:TypeId} {pos:String} {aft:Array Edge} {gd:Option (Nat × Bool)} {p:PV} {g:FuncId} {args:List Operand} {ps:List PV} {ats:Array TypeId} {ms:Nat} {b b':Blk} {bs:List (Nm × Blk)}
 (hsp:z0w P g ps (((0,ms),b)::bs) [((0,ms),b')] p) (hev:St.evs ⟨n,tm,hp,up⟩ args=some ps) (hb:Ab.look hp ms=some b) (hbs:BkE ⟨n,tm,hp,up⟩ bs) (hd:d<n)
 (h:Ops P f R all l k ⟨n,(d,p)::tm,(ms,b')::hp,up⟩):Op1 P f R all ⟨some d,.call ⟨.value (.func g),args.toArray,ats⟩,ty,pos,aft,gd⟩ l k ⟨n,tm,hp,up⟩ :=
 zj8 hsp hev (z07 (m:=(0,ms)) hb hbs) hd rfl h
def zp5 (u:Un):Bool:=decide (u.1=65533)&&decide (u.2.2=1)
def zdj (s:ByteArray):Rx × Int × Int :=
 if 200<s.size then (zec,0,2) else match (unF 0 (rst s 0)).find? zp5 with
  | some u=>(zec,u.2.1,7)
  | none=>zdh s.size (rst s 0)
theorem zpl:∀ (l:List U) (i:Nat),(unF i l).length=l.length
 | [],i=>rfl
 | u::l,i=>by rw[unF,zAk,zAk,zpl l]
theorem zqy (τ:Tab) (s:ByteArray) (hs:s.size≤1000000):z0w Tryz.prog 47 [S s] (zhr τ 0) [] (.tup [.d (eX (zdj s).1),I .i64 (zdj s).2.1,I .i64 (zdj s).2.2]):=by
 refine z10 fun H hH=>?_
 have hT:HT τ 0 H:=HT.of (bs:=[]) hH
 refine z08 Tryz.func47 (by kernel_rfl) rfl (by simp) ?_
 dsimp only[Tryz.f47]
 by_cases h200:200<s.size
 · rw[zdj,zAz h200,z4a]
   repeat' (first|refine z05 ?_|refine fk (fun _=>?_) (fun _=>?_))
   all_goals exact zD44
 rw[zdj,zAy h200]
 repeat' (first|refine z05 ?_|refine fk (fun _=>?_) (fun _=>?_))
 all_goals try (exfalso;omega)
 obtain⟨L,hL⟩:∃ L,unF 0 (rst s 0)=L:=⟨_,rfl⟩
 have hLl:L.length≤s.size:=by rw[← hL,zpl];have:=z6v s _ 0 (zAj _);omega
 rw[hL]
 refine z0l ?_
 refine z01 (z0x (fun q:Nat=>⟨66,[(0,S s),(2,.ptr (0,2) 0),(5,I .i64 (q:Nat))],[(2,.box (z5v [Value.int .i64 0,Value.int .i64 0,Value.int .i64 0,z2w,z2w]))],H⟩)
  (fun q=>q≤L.length∧(L.drop q).find? zp5=L.find? zp5) (fun q=>L.length-q) ?_ 0 ⟨zAf _,rfl⟩) rfl rfl
 intro q ⟨i1,i2⟩ ih
 have hat:=ybp s hs q (by omega)
 rw[atR,hL] at hat
 by_cases hlt:q<L.length
 · obtain⟨u,hu⟩:∃ u,L[q]? =some u:=⟨_,zA0 hlt⟩
   rw[hu] at hat
   simp only at hat
   rw[drop_cons hu,List.find?_cons] at i2
   cases hb:zp5 u with
   | true =>
    rw[hb] at i2
    simp only at i2
    rw[← i2]
    simp only[zp5,zA7,zA3] at hb
    obtain⟨hb1,hb2⟩:=hb
    simp only
    rw[z4a]
    repeat' (first|(apply z03;(refine z1i hat ?_))|refine z05 ?_|refine fk (fun _=>?_) (fun _=>?_))
    all_goals exact zD44
   | false =>
    rw[hb] at i2
    simp only at i2
    have hnb:¬ (u.1=65533∧u.2.2=1):=fun h=>by
     simp only[zp5,h.1,h.2] at hb;simp at hb
    repeat' (first|(apply z03;(refine z1i hat ?_))|refine z05 ?_|refine fk (fun _=>?_) (fun _=>?_))
    all_goals try (exfalso;omega)
    all_goals exact z01 (ih (q+1) ⟨by omega,i2⟩ (by omega)) rfl rfl
 · obtain rfl:q=L.length:=by omega
   rw[zAv (zAj _)] at hat
   simp only at hat
   rw[zAs,List.find?_nil] at i2
   rw[← i2]
   simp only
   clear ih
   have hil:=z6v s _ 0 (zAj _)
   obtain⟨N,hN⟩:∃ N,4*(rst s 0).length+4=N:=⟨_,rfl⟩
   have hne:=(ybd N).1 [] (rst s 0) (by omega)
   have hu:=y4m (X:=10) (by decide) (by decide) τ s hs N 0 (zAf _) 0 hne
   have hsf:=(zge N).1 [] (rst s 0)
   have hsz:=(y8u N).1 [] (rst s 0)
   have hrs:=(ybh 1000001 N).1 [] (rst s 0)
   rcases hp:pU N [] (rst s 0) with ⟨e,r⟩|⟨a,b⟩|_
   · rw[hp] at hu hsf hsz hrs
     obtain⟨j,hj1,hj,rfl⟩:=z5e s _ 0 r (zAj _) (zAf _) hsf
     have hsz:=hsz e _ rfl
     have hrs:=hrs e _ (by omega) (by rw[zfm];trivial) rfl
     simp only[szL] at hsz
     have hfit:fit e:=(y7p 3000000 (by decide)).1 e (by omega) (y8b (C:=1000001) (D:=3000000) (by decide) hrs)
     have hv:=z6a e hfit
     rw[z3u hj] at hu
     obtain⟨op,mn,mx,rs,ks⟩:=e
     rw[z96,z6g] at hu
     rw[show Drx (.mk op mn mx rs ks)=.agg (rx5 op mn mx rs ks) from z6g op mn mx rs ks] at hv
     by_cases hjl:j<s.size
     · have hq:zdh s.size (rst s 0)=(zec,(j:Int),3):=by
        have hsj:=zc6 hj
        rw[zdh,hN,hp,z3c hjl]
        simp only
        rw[← z3c hjl,hsj]
        simp;omega
       have hf:=z5p (X:=10) s (I .i64 (j:Nat)) (j:Nat) 3 0 (by decide)
       rw[hq,z4a]
       repeat' (first|(apply z03;(first|refine zgm hu rfl rfl (bkT hT) (by decide) ?_|refine z1i hat ?_| refine z3v hf ?_))|refine z05 ?_|refine fk (fun _=>?_) (fun _=>?_))
       all_goals exact zD44
     · have hq:zdh s.size (rst s 0)=if val (.mk op mn mx rs ks)≠0 then (zec,0,2) else (.mk op mn mx rs ks,0,0):=by
        rw[zdh,hN,hp,z29 (by omega)]
       rw[hq]
       by_cases hv0:val (.mk op mn mx rs ks)≠0
       · rw[zAz hv0,z4a]
         all_goals exact zD105
       · rw[zAy hv0,z6g]
         have hv1:val (.mk op mn mx rs ks)=0:=Classical.not_not.1 hv0
         rw[hv1] at hv
         all_goals exact zD105
   · rw[hp] at hu hsf
     have hq:zdh s.size (rst s 0)=(zec,(s.size:Int)-bts a,b):=by rw[zdh,hN,hp]
     obtain⟨j,hj1,hj,rfl⟩:=z5e s _ 0 a (zAj _) (zAf _) hsf
     have hsj:=zc6 hj
     rw[z5j hj] at hu
     rw[hq,hsj,show (s.size:Int)-((s.size-j:Nat):Int)=(j:Nat) by omega,z4a]
     rw[z96,z4a] at hu
     repeat' (first|(apply z03;(first|refine zgm hu rfl rfl (bkT hT) (by decide) ?_|refine z1i hat ?_))|refine z05 ?_|fail)
     all_goals exact zD44
   · exact absurd hp hne
end Go.Proofs.YtmcggompdmngmaaGreatDoor
