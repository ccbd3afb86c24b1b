/- A part of the proof: G14 to G18. -/
import Derived.Test.YtmcggompdmngmaaGreatDoorVc
import Derived.Test.YtmcggompdmngmaaGreatDoorVH
import Derived.Test.YtmcggompdmngmaaGreatDoorVr
import Derived.Test.YtmcggompdmngmaaGreatDoorVx
set_option linter.all false
namespace Go.Proofs.YtmcggompdmngmaaGreatDoor
open Go.Ab Go.Rx
set_option maxHeartbeats 20000000
set_option maxRecDepth 100000
attribute [local irreducible] Run Ops Op1 z13 Val Tr z0d z0w NF Rel z2a z2b
theorem zrj {o:Int} {l:List Rx} (h:l.length≠1):fin o l=.mk o 0 0 [] l:=by
 match l,h with
 | [],_=>rfl
 | [e],h=>simp at h
 | a::b::l,_=>rfl
section
variable {X:Nat} (hX0:X≠700) (hX1:X≠701) (τ:Tab) (s:ByteArray) (hs:s.size≤1000000)
include hX0 hX1 hs
theorem zu2 (N:Nat) (hR:∀ m,m<N→HR X τ s m):HC X τ s N:=by
 intro i hi e0 hne
 refine z10 fun H hH=>?_
 have hX:H e0 X=some (pbx s i 0 0):=hH ((e0,X),pbx s i 0 0) (by simp)
 have hT:HT τ (e0+1) H:=HT.of (bs:=[((e0,X),pbx s i 0 0)]) hH
 refine z0b Tryz.func128 (by kernel_rfl) rfl (by simp) ?_
 dsimp only[Tryz.f128]
 have hn:=z47 (X:=X) τ s i hi 0 0 (e0+1)
 have hil:=z6t s _ i (zAj _)
 obtain⟨T,hT0⟩:∃ T,pC N [] (rst s i)=T:=⟨_,rfl⟩
 rw[hT0] at hne ⊢
 repeat' (first|(apply z04;(refine z0q hn (z06 (m:=(e0+1,X)) hX (bkT (by repeat (first|exact hT|refine HT.upd ?_ hX0 hX1)))) ?_))|refine z05 ?_|fail)
 all_goals try (exfalso;omega)
 refine z1z 4 1000 51 5 rfl rfl rfl ?_
 refine z0n ?_
 refine zsf (m:=(e0,X)) hX ?_
 refine z02 (z11 (fun q:Nat × List Rx × Nat=>⟨49,[(0,.ptr (e0+1,X) 0),(2,.ptr (0,2) 0),(4,.ref (0,1000)),(5,I .i32 (nx (rst s q.2.2)))],[(1000,.row 51 5 (q.2.1.map rxc)),(2,.box (z5s [Value.int .i64 0,Value.int .i64 0,Value.int .i64 0,z2t,z2t]))],upd H (e0,X) (pbx s (q.2.2:Nat) 0 0)⟩)
  (fun q=>q.2.2≤s.size∧q.1≤N∧szL q.2.1+2*(rst s q.2.2).length≤2*(rst s i).length∧pC q.1 q.2.1 (rst s q.2.2)=T) (fun q=>q.1) ?_ (N,[],i) ⟨hi,zAj _,by simp[szL],hT0⟩) rfl rfl
 clear hT0 hn
 rintro⟨m,acc,j⟩ ⟨i1,i2,i3,i4⟩ ih
 simp only at i1 i2 i3 i4 ih ⊢
 cases m with
 | zero=>rw[pC] at i4;exact absurd i4.symm hne
 | succ m =>
 rw[pC] at i4
 have hal:=zal acc
 have hrg:=zmf s j
 by_cases hend:nx (rst s j)<0∨nx (rst s j)=124∨nx (rst s j)=41
 · rw[zAz hend] at i4
   rw[← i4,z3u i1]
   by_cases h1:acc.length=1
   · obtain⟨x,rfl⟩:=List.length_eq_one_iff.1 h1
     obtain⟨op,mn,mx,rs,ks⟩:=x
     rw[show fin 2 [Rx.mk op mn mx rs ks]=Rx.mk op mn mx rs ks from rfl,z94,z5z,List.map_cons,List.map_nil,z27]
     clear ih
     refine z0z 1000 rfl ?_
     repeat' (first|(apply z0a;(refine z0c (z2i (u:=rx5 op mn mx rs ks) rfl (by omega) rfl rfl) rfl rfl ?_))|refine z05 ?_|refine fk (fun _=>?_) (fun _=>?_))
     all_goals exact zD43
   · rw[zrj h1,z94,z5z]
     clear ih
     refine z0z 1000 rfl ?_
     repeat' (first|refine z05 ?_|refine fk (fun _=>?_) (fun _=>?_))
     all_goals exact zD43
 · rw[zAy hend] at i4
   have hr:=hR m (by omega) j i1 (by omega) (e0+1) (fun h=>hne (by rw[← i4,h]))
   have hsf:=((zf6 m).2.2.1 (rst s j)).1
   have hsz:=(y7p m).2.2.1 (rst s j)
   rcases hp:pR m (rst s j) with ⟨e,r⟩|⟨a,b⟩|_
   · rw[hp] at hr hsf hsz i4
     obtain⟨k,hk1,hk,rfl⟩:=z57 s _ j r (zAj _) i1 hsf
     rw[z3u hk] at hr
     have hsz:=hsz e _ rfl
     simp only at i4
     have hn:=z47 (X:=X) τ s k hk 0 0 (e0+1)
     have hfl:=zg6 2 e
     have hfa:=z7i acc (flat 2 e)
     obtain⟨op,mn,mx,rs,ks⟩:=e
     rw[z94,z5z] at hr
     have hks:=zal ks
     have ih':=ih (m,acc++flat 2 (.mk op mn mx rs ks),k) ⟨hk,by simp only;omega,by simp only;omega,i4⟩ (by simp only;omega)
     by_cases h2:op=2
     · have hf2:flat 2 (Rx.mk op mn mx rs ks)=ks:=by simp[flat,Rx.op,Rx.ks,h2]
       rw[hf2] at ih' hfl
       simp only at ih'
       subst h2
       have hn2:=hn
       repeat' (first|(apply z1m;(refine z9g (g:=rxc) rfl rfl rfl rfl rfl z2g rfl rfl (by decide) (by omega) ?_))|(apply z04;(first|refine z1u hr (z01 _ (e0,X) _) (bkT (by repeat (first|exact hT|refine HT.upd ?_ hX0 hX1))) ?_| refine z0q hn2 (z06 (m:=(e0+1,X)) (z01 _ (e0,X) _) (bkT (by repeat (first|exact hT|refine HT.upd ?_ hX0 hX1)))) ?_))|refine z05 ?_|refine fk (fun _=>?_) (fun _=>?_))
       all_goals try (exfalso;omega)
       all_goals ((repeat rw[z09]);refine z2l 36 1000 ?_;exact z02 ih' rfl rfl)
     · have hf2:flat 2 (Rx.mk op mn mx rs ks)=[Rx.mk op mn mx rs ks]:=by simp[flat,Rx.op,h2]
       rw[hf2] at ih'
       simp only at ih'
       have hn2:=hn
       repeat' (first|(apply z1m;(first|refine z3r (g:=rxc) rfl rfl (Rx.mk op mn mx rs ks) (by rw[z27];rfl) rfl rfl rfl (z2g _) rfl rfl (by decide) (by omega) ?_|refine z9g (g:=rxc) rfl rfl rfl rfl rfl z2g rfl rfl (by decide) (by omega) ?_))|(apply z04;(first|refine z1u hr (z01 _ (e0,X) _) (bkT (by repeat (first|exact hT|refine HT.upd ?_ hX0 hX1))) ?_| refine z0q hn2 (z06 (m:=(e0+1,X)) (z01 _ (e0,X) _) (bkT (by repeat (first|exact hT|refine HT.upd ?_ hX0 hX1)))) ?_))|refine z05 ?_|refine fk (fun _=>?_) (fun _=>?_))
       all_goals try (exfalso;omega)
       all_goals ((repeat rw[z09]);refine z2l 40 1000 ?_;exact z02 ih' rfl rfl)
   · rw[hp] at hr i4
     simp only at i4
     rw[← i4,z94,z4e]
     rw[z94,z4e] at hr
     repeat' (first|(apply z04;(refine z1u hr (z01 _ (e0,X) _) (bkT (by repeat (first|exact hT|refine HT.upd ?_ hX0 hX1))) ?_))|refine z05 ?_|refine fk (fun _=>?_) (fun _=>?_))
     all_goals exact zD43
   · rw[hp] at i4;exact absurd i4.symm hne
end
section
variable {X:Nat} (hX0:X≠700) (hX1:X≠701) (τ:Tab) (s:ByteArray) (hs:s.size≤1000000)
include hX0 hX1 hs
theorem y35 (N:Nat) (hC:∀ m,m<N→HC X τ s m):HU X τ s N:=by
 intro i hi e0 hne
 refine z10 fun H hH=>?_
 have hX:H e0 X=some (pbx s i 0 0):=hH ((e0,X),pbx s i 0 0) (by simp)
 have hT:HT τ (e0+1) H:=HT.of (bs:=[((e0,X),pbx s i 0 0)]) hH
 refine z0b Tryz.func87 (by kernel_rfl) rfl (by simp) ?_
 dsimp only[Tryz.f87]
 have hil:=z6t s _ i (zAj _)
 obtain⟨T,hT0⟩:∃ T,pU N [] (rst s i)=T:=⟨_,rfl⟩
 rw[hT0] at hne ⊢
 repeat' (first|refine z05 ?_|fail)
 all_goals try (exfalso;omega)
 refine z1z 4 1000 51 5 rfl rfl rfl ?_
 refine z0n ?_
 refine zsf (m:=(e0,X)) hX ?_
 refine z02 (z11 (fun q:Nat × List Rx × Nat=>⟨44,[(0,.ptr (e0+1,X) 0),(2,.ptr (0,2) 0),(4,.ref (0,1000))],[(1000,.row 51 5 (q.2.1.map rxc)),(2,.box (z5s [Value.int .i64 0,Value.int .i64 0,Value.int .i64 0,z2t,z2t]))],upd H (e0,X) (pbx s (q.2.2:Nat) 0 0)⟩)
  (fun q=>q.2.2≤s.size∧q.1≤N∧szL q.2.1+2*(rst s q.2.2).length≤2*(rst s i).length∧pU q.1 q.2.1 (rst s q.2.2)=T) (fun q=>q.1) ?_ (N,[],i) ⟨hi,zAj _,by simp[szL],hT0⟩) rfl rfl
 clear hT0
 rintro⟨m,acc,j⟩ ⟨i1,i2,i3,i4⟩ ih
 simp only at i1 i2 i3 i4 ih ⊢
 cases m with
 | zero=>rw[pU] at i4;exact absurd i4.symm hne
 | succ m =>
 rw[pU] at i4
 have hal:=zal acc
 have hr:=hC m (by omega) j i1 (e0+1) (fun h=>hne (by rw[← i4,h]))
 have hsf:=(zf6 m).2.1 [] (rst s j)
 have hsz:=(y7p m).2.1 [] (rst s j)
 rcases hp:pC m [] (rst s j) with ⟨e,r⟩|⟨a,b⟩|_
 · rw[hp] at hr hsf hsz i4
   obtain⟨k,hk1,hk,rfl⟩:=z57 s _ j r (zAj _) i1 hsf
   rw[z3u hk] at hr
   have hsz:=hsz e _ rfl
   simp only[szL] at i4 hsz
   have hn:=z47 (X:=X) τ s k hk 0 0 (e0+1)
   have hfl:=zg6 3 e
   have hfa:=z7i acc (flat 3 e)
   have hjl:=z6t s _ j (zAj _)
   obtain⟨op,mn,mx,rs,ks⟩:=e
   rw[z94,z5z] at hr
   have hks:=zal ks
   by_cases h124:nx (rst s k)=124
   · rw[zAz h124] at i4
     obtain⟨hkl,htk,hek⟩:=z2j hk h124 (by decide) (by decide)
     have hkk:=z5m h124 (by decide)
     rw[htk] at i4 hkk
     have ih':=ih (m,acc++flat 3 (.mk op mn mx rs ks),k+1) ⟨hkl,by simp only;omega,by simp only;omega,i4⟩ (by simp only;omega)
     by_cases h2:op=3
     · have hf2:flat 3 (Rx.mk op mn mx rs ks)=ks:=by simp[flat,Rx.op,Rx.ks,h2]
       rw[hf2] at ih' hfl
       simp only at ih'
       subst h2
       repeat' (first|(apply z0i;(refine z2r (z01 _ (e0,X) _) ?_))|(apply z1m;(refine z9g (g:=rxc) rfl rfl rfl rfl rfl z2g rfl rfl (by decide) (by omega) ?_))|(apply z04;(first|refine z1u hr (z01 _ (e0,X) _) (bkT (by repeat (first|exact hT|refine HT.upd ?_ hX0 hX1))) ?_| refine z0q hn (z06 (m:=(e0+1,X)) (z01 _ (e0,X) _) (bkT (by repeat (first|exact hT|refine HT.upd ?_ hX0 hX1)))) ?_))|(apply z0m;(refine z1r (raw':=pbx s ((k+1:Nat):Int) 0 0) (z01 _ (e0,X) _) ?_))|refine z05 ?_|refine fk (fun _=>?_) (fun _=>?_))
       all_goals try (exfalso;omega)
       all_goals ((repeat rw[z09]);refine z2l 21 1000 ?_;exact z02 ih' rfl rfl)
     · have hf2:flat 3 (Rx.mk op mn mx rs ks)=[Rx.mk op mn mx rs ks]:=by simp[flat,Rx.op,h2]
       rw[hf2] at ih'
       simp only at ih'
       repeat' (first|(apply z0i;(refine z2r (z01 _ (e0,X) _) ?_))|(apply z1m;(first|refine z3r (g:=rxc) rfl rfl (Rx.mk op mn mx rs ks) (by rw[z27];rfl) rfl rfl rfl (z2g _) rfl rfl (by decide) (by omega) ?_|refine z9g (g:=rxc) rfl rfl rfl rfl rfl z2g rfl rfl (by decide) (by omega) ?_))|(apply z04;(first|refine z1u hr (z01 _ (e0,X) _) (bkT (by repeat (first|exact hT|refine HT.upd ?_ hX0 hX1))) ?_| refine z0q hn (z06 (m:=(e0+1,X)) (z01 _ (e0,X) _) (bkT (by repeat (first|exact hT|refine HT.upd ?_ hX0 hX1)))) ?_))|(apply z0m;(refine z1r (raw':=pbx s ((k+1:Nat):Int) 0 0) (z01 _ (e0,X) _) ?_))|refine z05 ?_|refine fk (fun _=>?_) (fun _=>?_))
       all_goals try (exfalso;omega)
       all_goals ((repeat rw[z09]);refine z2l 25 1000 ?_;exact z02 ih' rfl rfl)
   · rw[zAy h124] at i4
     clear ih
     by_cases h2:op=3
     · have hf2:flat 3 (Rx.mk op mn mx rs ks)=ks:=by simp[flat,Rx.op,Rx.ks,h2]
       rw[hf2] at i4 hfl
       subst h2
       by_cases h1:(acc++ks).length=1
       · obtain⟨x,hx⟩:=List.length_eq_one_iff.1 h1
         rw[hx] at i4
         obtain⟨op',mn',mx',rs',ks'⟩:=x
         rw[← i4,z3u hk,show fin 3 [Rx.mk op' mn' mx' rs' ks']=Rx.mk op' mn' mx' rs' ks' from rfl,z94,z5z]
         repeat' (first|(apply z0i;(refine z2r (z01 _ (e0,X) _) ?_))|(apply z0a;(refine z0c (z2i (u:=rx5 op' mn' mx' rs' ks') rfl (by omega) rfl rfl) rfl rfl ?_))|(apply z1m;(refine z9g (g:=rxc) rfl rfl rfl rfl rfl z2g rfl rfl (by decide) (by omega) ?_))|(apply z04;(first|(refine z0q hn (z06 (m:=(e0+1,X)) (z01 _ (e0,X) _) (bkT (by repeat (first|exact hT|refine HT.upd ?_ hX0 hX1)))) ?_;refine z3s 21 rfl ?_;rw[hx,List.map_cons,List.map_nil,z27])|refine z1u hr (z01 _ (e0,X) _) (bkT (by repeat (first|exact hT|refine HT.upd ?_ hX0 hX1))) ?_))|(apply z0m;(refine z1r (raw':=pbx s ((k+1:Nat):Int) 0 0) (z01 _ (e0,X) _) ?_))|refine z05 ?_|refine fk (fun _=>?_) (fun _=>?_))
         all_goals exact zD22
       · rw[zrj h1] at i4
         rw[← i4,z3u hk,z94,z5z]
         repeat' (first|(apply z0i;(refine z2r (z01 _ (e0,X) _) ?_))|(apply z1m;(refine z9g (g:=rxc) rfl rfl rfl rfl rfl z2g rfl rfl (by decide) (by omega) ?_))|(apply z04;(first|(refine z0q hn (z06 (m:=(e0+1,X)) (z01 _ (e0,X) _) (bkT (by repeat (first|exact hT|refine HT.upd ?_ hX0 hX1)))) ?_;refine z3s 21 rfl ?_)|refine z1u hr (z01 _ (e0,X) _) (bkT (by repeat (first|exact hT|refine HT.upd ?_ hX0 hX1))) ?_))|(apply z0m;(refine z1r (raw':=pbx s ((k+1:Nat):Int) 0 0) (z01 _ (e0,X) _) ?_))|refine z05 ?_|refine fk (fun _=>?_) (fun _=>?_))
         all_goals exact zD22
     · have hf2:flat 3 (Rx.mk op mn mx rs ks)=[Rx.mk op mn mx rs ks]:=by simp[flat,Rx.op,h2]
       rw[hf2] at i4
       by_cases h1:(acc++[Rx.mk op mn mx rs ks]).length=1
       · obtain⟨x,hx⟩:=List.length_eq_one_iff.1 h1
         rw[hx] at i4
         obtain⟨op',mn',mx',rs',ks'⟩:=x
         rw[← i4,z3u hk,show fin 3 [Rx.mk op' mn' mx' rs' ks']=Rx.mk op' mn' mx' rs' ks' from rfl,z94,z5z]
         repeat' (first|(apply z0i;(refine z2r (z01 _ (e0,X) _) ?_))|(apply z0a;(refine z0c (z2i (u:=rx5 op' mn' mx' rs' ks') rfl (by omega) rfl rfl) rfl rfl ?_))|(apply z1m;(first|refine z3r (g:=rxc) rfl rfl (Rx.mk op mn mx rs ks) (by rw[z27];rfl) rfl rfl rfl (z2g _) rfl rfl (by decide) (by omega) ?_|refine z9g (g:=rxc) rfl rfl rfl rfl rfl z2g rfl rfl (by decide) (by omega) ?_))|(apply z04;(first|(refine z0q hn (z06 (m:=(e0+1,X)) (z01 _ (e0,X) _) (bkT (by repeat (first|exact hT|refine HT.upd ?_ hX0 hX1)))) ?_;refine z3s 25 rfl ?_;rw[hx,List.map_cons,List.map_nil,z27])|refine z1u hr (z01 _ (e0,X) _) (bkT (by repeat (first|exact hT|refine HT.upd ?_ hX0 hX1))) ?_| refine z0q hn (z06 (m:=(e0+1,X)) (z01 _ (e0,X) _) (bkT (by repeat (first|exact hT|refine HT.upd ?_ hX0 hX1)))) ?_))|(apply z0m;(refine z1r (raw':=pbx s ((k+1:Nat):Int) 0 0) (z01 _ (e0,X) _) ?_))|refine z05 ?_|refine fk (fun _=>?_) (fun _=>?_))
         all_goals exact zD22
       · rw[zrj h1] at i4
         rw[← i4,z3u hk,z94,z5z]
         repeat' (first|(apply z0i;(refine z2r (z01 _ (e0,X) _) ?_))|(apply z1m;(first|refine z3r (g:=rxc) rfl rfl (Rx.mk op mn mx rs ks) (by rw[z27];rfl) rfl rfl rfl (z2g _) rfl rfl (by decide) (by omega) ?_|refine z9g (g:=rxc) rfl rfl rfl rfl rfl z2g rfl rfl (by decide) (by omega) ?_))|(apply z04;(first|(refine z0q hn (z06 (m:=(e0+1,X)) (z01 _ (e0,X) _) (bkT (by repeat (first|exact hT|refine HT.upd ?_ hX0 hX1)))) ?_;refine z3s 25 rfl ?_)|refine z1u hr (z01 _ (e0,X) _) (bkT (by repeat (first|exact hT|refine HT.upd ?_ hX0 hX1))) ?_| refine z0q hn (z06 (m:=(e0+1,X)) (z01 _ (e0,X) _) (bkT (by repeat (first|exact hT|refine HT.upd ?_ hX0 hX1)))) ?_))|(apply z0m;(refine z1r (raw':=pbx s ((k+1:Nat):Int) 0 0) (z01 _ (e0,X) _) ?_))|refine z05 ?_|refine fk (fun _=>?_) (fun _=>?_))
         all_goals exact zD22
 · rw[hp] at hr i4
   simp only at i4
   rw[← i4,z94,z4e]
   rw[z94,z4e] at hr
   repeat' (first|(apply z04;(refine z1u hr (z01 _ (e0,X) _) (bkT (by repeat (first|exact hT|refine HT.upd ?_ hX0 hX1))) ?_))|refine z05 ?_|fail)
   all_goals exact zD22
 · rw[hp] at i4;exact absurd i4.symm hne
theorem y10 (N:Nat):HU X τ s N:=by
 induction N using Nat.strongRecOn with
 | _ N ih =>
  refine y35 hX0 hX1 τ s hs N fun m hm=>zu2 hX0 hX1 τ s hs m fun k hk=>?_
  match k,hk with
  | 0,_=>intro i hi h0 e0 h;exact absurd (by rw[pR]) h
  | 1,_=>intro i hi h0 e0 h;exact absurd (by rw[pR,pA]) h
  | k+2,hk=>exact zvo hX0 hX1 τ s hs k (y6i hX0 hX1 τ s hs k (ih k (by omega)))
end
theorem y5z (N:Nat) (hN:N≤9223372036854775807):(∀ e:Rx,sz e≤N→Rx.rsB N e→fit e)∧∀ l:List Rx,szL l≤N→ze8 N l→zio l:=by
 refine Rx.ind (fun op mn mx rs ks ih h1 h2=>?_) (fun _ _=>by rw[zio];trivial) (fun k ks ihk ih h1 h2=>?_)
 · rw[sz] at h1
   rw[Rx.rsB] at h2
   have:=zal ks
   rw[fit]
   exact⟨by omega,by omega,ih (by omega) h2.2⟩
 · rw[szL] at h1
   rw[ze8] at h2
   rw[zio]
   exact⟨ihk (by omega) h2.1,ih (by omega) h2.2⟩
theorem y4d {C D:Nat} (h:C≤D):∀ {e:Rx},Rx.rsB C e→Rx.rsB D e :=
 fun {e}=>(Rx.ind (p:=fun e=>Rx.rsB C e→Rx.rsB D e) (q:=fun l=>ze8 C l→ze8 D l) (fun op mn mx rs ks ih h1=>by
  rw[Rx.rsB] at h1 ⊢;exact⟨Nat.le_trans h1.1 h,ih h1.2⟩) (fun _=>by rw[ze8];trivial) (fun k ks ihk ih h1=>by
  rw[ze8] at h1 ⊢;exact⟨ihk h1.1,ih h1.2⟩)).1 e
theorem zfe {P:Program} {f:FuncId} {R:z38} {k:List Item} {all:Array Oper} {l:List Oper} {n:Nat} {tm:List (Nat × PV)} {hp:Hp} {up:Hf} {d:Nat} {ty:TypeId} {pos:String} {aft:Array Edge} {gd:Option (Nat × Bool)} {p:PV} {g:FuncId} {args:List Operand} {ps:List PV} {ats:Array TypeId} {ms:Nat} {b b':Blk} {bs:List (Nm × Blk)}
 (hsp:z0w P g ps (((0,ms),b)::bs) [((0,ms),b')] p) (hev:St.evs ⟨n,tm,hp,up⟩ args=some ps) (hb:Ab.look hp ms=some b) (hbs:BkE ⟨n,tm,hp,up⟩ bs) (hd:d<n)
 (h:Ops P f R all l k ⟨n,(d,p)::tm,(ms,b')::hp,up⟩):Op1 P f R all ⟨some d,.call ⟨.value (.func g),args.toArray,ats⟩,ty,pos,aft,gd⟩ l k ⟨n,tm,hp,up⟩ :=
 zh9 hsp hev (z06 (m:=(0,ms)) hb hbs) hd rfl h
def zo6 (u:Un):Bool:=decide (u.1=65533)&&decide (u.2.2=1)
def zd6 (s:ByteArray):Rx × Int × Int :=
 if 200<s.size then (zdz,0,2) else match (unF 0 (rst s 0)).find? zo6 with
  | some u=>(zdz,u.2.1,7)
  | none=>zcg s.size (rst s 0)
theorem zta:∀ (l:List U) (i:Nat),(unF i l).length=l.length
 | [],i=>rfl
 | u::l,i=>by rw[unF,zAk,zAk,zta l]
theorem zro (τ:Tab) (s:ByteArray) (hs:s.size≤1000000):z0w Tryz.prog 47 [S s] (zgu τ 0) [] (.tup [.d (eX (zd6 s).1),I .i64 (zd6 s).2.1,I .i64 (zd6 s).2.2]):=by
 refine z10 fun H hH=>?_
 have hT:HT τ 0 H:=HT.of (bs:=[]) hH
 refine z0b Tryz.func47 (by kernel_rfl) rfl (by simp) ?_
 dsimp only[Tryz.f47]
 by_cases h200:200<s.size
 · rw[zd6,zAz h200,z4e]
   repeat' (first|refine z05 ?_|refine fk (fun _=>?_) (fun _=>?_))
   all_goals exact zD42
 rw[zd6,zAy h200]
 repeat' (first|refine z05 ?_|refine fk (fun _=>?_) (fun _=>?_))
 all_goals try (exfalso;omega)
 obtain⟨L,hL⟩:∃ L,unF 0 (rst s 0)=L:=⟨_,rfl⟩
 have hLl:L.length≤s.size:=by rw[← hL,zta];have:=z6t s _ 0 (zAj _);omega
 rw[hL]
 refine z0n ?_
 refine z02 (z11 (fun q:Nat=>⟨66,[(0,S s),(2,.ptr (0,2) 0),(5,I .i64 (q:Nat))],[(2,.box (z5s [Value.int .i64 0,Value.int .i64 0,Value.int .i64 0,z2t,z2t]))],H⟩)
  (fun q=>q≤L.length∧(L.drop q).find? zo6=L.find? zo6) (fun q=>L.length-q) ?_ 0 ⟨zAf _,rfl⟩) rfl rfl
 intro q ⟨i1,i2⟩ ih
 have hat:=ya7 s hs q (by omega)
 rw[atR,hL] at hat
 by_cases hlt:q<L.length
 · obtain⟨u,hu⟩:∃ u,L[q]? =some u:=⟨_,zA0 hlt⟩
   rw[hu] at hat
   simp only at hat
   rw[drop_cons hu,List.find?_cons] at i2
   cases hb:zo6 u with
   | true =>
    rw[hb] at i2
    simp only at i2
    rw[← i2]
    simp only[zo6,zA7,zA3] at hb
    obtain⟨hb1,hb2⟩:=hb
    simp only
    rw[z4e]
    repeat' (first|(apply z04;(refine z1w hat ?_))|refine z05 ?_|refine fk (fun _=>?_) (fun _=>?_))
    all_goals exact zD42
   | false =>
    rw[hb] at i2
    simp only at i2
    have hnb:¬ (u.1=65533∧u.2.2=1):=fun h=>by
     simp only[zo6,h.1,h.2] at hb;simp at hb
    repeat' (first|(apply z04;(refine z1w hat ?_))|refine z05 ?_|refine fk (fun _=>?_) (fun _=>?_))
    all_goals try (exfalso;omega)
    all_goals exact z02 (ih (q+1) ⟨by omega,i2⟩ (by omega)) rfl rfl
 · obtain rfl:q=L.length:=by omega
   rw[zAv (zAj _)] at hat
   simp only at hat
   rw[zAs,List.find?_nil] at i2
   rw[← i2]
   simp only
   clear ih
   have hil:=z6t s _ 0 (zAj _)
   obtain⟨N,hN⟩:∃ N,4*(rst s 0).length+4=N:=⟨_,rfl⟩
   have hne:=(y9s N).1 [] (rst s 0) (by omega)
   have hu:=y10 (X:=10) (by decide) (by decide) τ s hs N 0 (zAf _) 0 hne
   have hsf:=(zf6 N).1 [] (rst s 0)
   have hsz:=(y7p N).1 [] (rst s 0)
   have hrs:=(ya2 1000001 N).1 [] (rst s 0)
   rcases hp:pU N [] (rst s 0) with ⟨e,r⟩|⟨a,b⟩|_
   · rw[hp] at hu hsf hsz hrs
     obtain⟨j,hj1,hj,rfl⟩:=z57 s _ 0 r (zAj _) (zAf _) hsf
     have hsz:=hsz e _ rfl
     have hrs:=hrs e _ (by omega) (by rw[ze8];trivial) rfl
     simp only[szL] at hsz
     have hfit:fit e:=(y5z 3000000 (by decide)).1 e (by omega) (y4d (C:=1000001) (D:=3000000) (by decide) hrs)
     have hv:=z6c e hfit
     rw[z3u hj] at hu
     obtain⟨op,mn,mx,rs,ks⟩:=e
     rw[z94,z5z] at hu
     rw[show Drx (.mk op mn mx rs ks)=.agg (rx5 op mn mx rs ks) from z5z op mn mx rs ks] at hv
     by_cases hjl:j<s.size
     · have hq:zcg s.size (rst s 0)=(zdz,(j:Int),3):=by
        have hsj:=zbu hj
        rw[zcg,hN,hp,z3b hjl]
        simp only
        rw[← z3b hjl,hsj]
        simp;omega
       have hf:=z5i (X:=10) s (I .i64 (j:Nat)) (j:Nat) 3 0 (by decide)
       rw[hq,z4e]
       repeat' (first|(apply z04;(first|refine zfe hu rfl rfl (bkT hT) (by decide) ?_|refine z1w hat ?_| refine z3x hf ?_))|refine z05 ?_|refine fk (fun _=>?_) (fun _=>?_))
       all_goals exact zD42
     · have hq:zcg s.size (rst s 0)=if val (.mk op mn mx rs ks)≠0 then (zdz,0,2) else (.mk op mn mx rs ks,0,0):=by
        rw[zcg,hN,hp,z1y (by omega)]
       rw[hq]
       by_cases hv0:val (.mk op mn mx rs ks)≠0
       · rw[zAz hv0,z4e]
         all_goals exact zD98
       · rw[zAy hv0,z5z]
         have hv1:val (.mk op mn mx rs ks)=0:=Classical.not_not.1 hv0
         rw[hv1] at hv
         all_goals exact zD98
   · rw[hp] at hu hsf
     have hq:zcg s.size (rst s 0)=(zdz,(s.size:Int)-bts a,b):=by rw[zcg,hN,hp]
     obtain⟨j,hj1,hj,rfl⟩:=z57 s _ 0 a (zAj _) (zAf _) hsf
     have hsj:=zbu hj
     rw[z5d hj] at hu
     rw[hq,hsj,show (s.size:Int)-((s.size-j:Nat):Int)=(j:Nat) by omega,z4e]
     rw[z94,z4e] at hu
     repeat' (first|(apply z04;(first|refine zfe hu rfl rfl (bkT hT) (by decide) ?_|refine z1w hat ?_))|refine z05 ?_|fail)
     all_goals exact zD42
   · exact absurd hp hne
end Go.Proofs.YtmcggompdmngmaaGreatDoor
