/- A part of the proof: P5 to P5. -/
import Derived.Test.YtonhfccmeammbaaGreatDoorU8
set_option linter.all false
namespace Go.Proofs.YtonhfccmeammbaaGreatDoor
open Go.Ab Go.Rx
set_option maxHeartbeats 20000000
set_option maxRecDepth 100000
attribute [local irreducible] Run Ops Op1 z1x Val Tr z0m z1r NF Rel z83 z7w
section
variable {X:Nat} (hX0:X≠700) (hX1:X≠701) (τ:Tab) (s:ByteArray) (hs:s.size≤1000000)
include hX0 hX1 hs
theorem zyp (i j k:Nat) (x y:Rx) (hx3:x.op≠3) (hy3:y.op≠3) (h:RdC 146 X τ s i j x) (h':RdC 146 X τ s (j+1) k y) (hj:j<s.size) (hk:k≤s.size) (h1:nx (rst s j)=124) (h2:nx (rst s k)=-1):RdC 120 X τ s i k (.mk 3 0 0 [] [x,y]):=by
 intro e0
 refine z2h fun H hH=>?_
 have hX:H e0 X=some (pbx s i 0 0):=hH ((e0,X),pbx s i 0 0) (by simp)
 have hT:HT τ (e0+1) H:=HT.of (bs:=[((e0,X),pbx s i 0 0)]) hH
 have hr1:=h (e0+1)
 have hr2:=h' (e0+1)
 have hn1:=z9p (X:=X) τ s j (by omega) 0 0 (e0+1)
 have hn2:=z9p (X:=X) τ s k hk 0 0 (e0+1)
 rw[h1] at hn1
 rw[h2] at hn2
 refine z0g Tryz.func120 (by kernel_rfl) rfl (by simp) ?_
 dsimp only[Tryz.f120]
 obtain⟨op,mn,mx,rs,ks⟩:=x
 replace hx3:op≠3:=hx3
 obtain⟨op',mn',mx',rs',ks'⟩:=y
 replace hy3:op'≠3:=hy3
 rw[zcr] at hr1 hr2 ⊢
 repeat' (first|(apply z04;(first|refine z0l ?_| (apply z0i;(refine z0b z1e ?_))))|(apply z05;(first|refine z0k ?_|apply z09))|(apply z06;(first|apply z07|apply z00|apply z01)))
 all_goals try (exfalso;omega)
 refine z7z 4 1000 113 5 rfl rfl rfl ?_
 refine z0t ?_
 refine z3i ?_
 repeat' (first|(apply z04;(first|refine z0l ?_| (apply z0a;(first|refine z6z rfl (z4t _ (e0,X) _) rfl rfl rfl rfl (by decide) ?_|refine z02 z18 rfl rfl ?_| refine z02 z2a rfl rfl ?_))|(apply z0d;(refine z02 z1a rfl rfl ?_))|(apply z0z;(refine z02 (z14 z1p) rfl rfl ?_))|(apply z0x;(refine z9o (g:=rxc) (q:=[]) rfl rfl (Rx.mk op mn mx rs ks) (by rw[z4o];rfl) rfl rfl rfl (ze5 _) rfl rfl (by decide) (by decide) ?_))|(apply z0j;(first|refine z8j hn1 rfl (z29 (m:=(e0+1,X)) (z4t _ (e0,X) _) (bkT (by repeat (first|exact hT|refine HT.upd ?_ hX0 hX1)))) (by decide) ?_|refine z8z hr1 rfl hX (bkT (by repeat (first|exact hT|refine HT.upd ?_ hX0 hX1))) (by decide) ?_))|(apply z0f;(first|refine z68 (raw':=pbx s ((j+1:Nat):Int) 0 0) rfl (z4t _ (e0,X) _) rfl rfl rfl rfl rfl rfl ?_|refine z2d ?_))|(apply z0i;(refine z0b z1e ?_))|(apply z3t;(refine z3s rfl ?_))))|(apply z05;(first|refine z0k ?_|apply z09))|(apply z06;(first|apply z07|apply z00|refine z1f ?_| apply z08|apply z01|apply z03|refine z0h (fun _=>?_) (fun _=>?_))))
 all_goals try (exfalso;omega)
 refine z4x 25 1000 rfl rfl ?_
 refine z0e (tm':=[(0,.ptr (e0+1,X) 0),(2,.ptr (0,2) 0),(4,.ref (0,1000))]) (hp':=[(1000,.row 113 5 ([Rx.mk op mn mx rs ks].map rxc)),bxZ]) ?_ rfl rfl
 refine z3i ?_
 repeat' (first|(apply z04;(first|refine z0l ?_| (apply z0a;(first|refine z02 z18 rfl rfl ?_| refine z02 z2a rfl rfl ?_))|(apply z0d;(refine z02 z1a rfl rfl ?_))|(apply z0x;(first|refine z9o (g:=rxc) (q:=[Rx.mk op mn mx rs ks]) rfl rfl (Rx.mk op' mn' mx' rs' ks') (by rw[z4o];rfl) rfl rfl rfl (ze5 _) rfl rfl (by decide) (by simp) ?_|refine z02 (z0y rfl) rfl rfl ?_))|(apply z0j;(first|(refine z8j hn2 rfl (z29 (m:=(e0+1,X)) (z4t _ (e0,X) _) (bkT (by repeat (first|exact hT|refine HT.upd ?_ hX0 hX1)))) (by decide) ?_;refine zb9 25 rfl ?_)|refine z8z hr2 rfl (z4t _ (e0,X) _) (bkT (by repeat (first|exact hT|refine HT.upd ?_ hX0 hX1))) (by decide) ?_))|(apply z0f;(refine z2d ?_))|(apply z0i;(refine z0b z1e ?_))|(apply z1i;(refine z2x ?_))|(apply z3t;(refine z3s rfl ?_))))|(apply z05;(first|refine z0k ?_|apply z09))|(apply z06;(first|apply z07|apply z00|refine z1b rfl ?_|refine z1f ?_| apply z08|apply z01|refine z0h (fun _=>?_) (fun _=>?_)| refine z0o ?_)))
 all_goals try (exfalso;omega)
 all_goals first
  | ((repeat rw[z50]);first|exact z0c Tryz.func120 _ (z0r rfl rfl rfl rfl rfl rfl rfl) ⟨rfl,rfl⟩|exact z0c Tryz.func120 _ z2m ⟨rfl,rfl⟩|exact z0c Tryz.func120 _ z1j ⟨rfl,rfl⟩|exact z0c Tryz.func120 _ (z5b rfl rfl rfl rfl) ⟨rfl,rfl⟩)
end
end Go.Proofs.YtonhfccmeammbaaGreatDoor
