/- A part. -/
import Derived.Test.YtonhfccmeammbaaGreatDoorV8
set_option linter.all false
open Go.Proofs.Tryz
namespace Go.Proofs.YtonhfccmeammbaaGreatDoor
open Go.Ab Go.Rx
set_option maxHeartbeats 20000000
set_option maxRecDepth 100000
attribute [local irreducible] Run Ops Op1 z1z Val Tr z0q z1v NF Rel z5c z5d
section
variable{X:Nat}(hX0:X≠700)(hX1:X≠701)(τ:Tab)(s:ByteArray)(hs:s.size≤1000000)
include hX0 hX1 hs
theorem y67(i j k:Nat)(x y:Rx)(hx3:x.op≠3)(hy3:y.op≠3)(h:RdC 146 X τ s i j x)(h':RdC 146 X τ s (j+1) k y)(hj:j<s.size)(hk:k≤s.size)(h1:nx (rst s j)=124)(h2:nx (rst s k)=-1):RdC 120 X τ s i k (.mk 3 0 0 [] [x,y]):=by
 intro e0
 refine z2a fun H hH=>?_
 have hX:H e0 X=some (pbx s i 0 0):=hH ((e0,X),pbx s i 0 0) (by simp)
 have hT:HT τ (e0+1) H:=HT.of (bs:=[((e0,X),pbx s i 0 0)]) hH
 have hr1:=h (e0+1)
 have hr2:=h' (e0+1)
 have hn1:=zb0 (X:=X) τ s j (by omega) 0 0 (e0+1)
 have hn2:=zb0 (X:=X) τ s k hk 0 0 (e0+1)
 rw[h1]at hn1
 rw[h2]at hn2
 refine z0g func120 (by kernel_rfl) rfl (by simp) ?_
 dsimp only[f120]
 obtain⟨op,mn,mx,rs,ks⟩:=x
 replace hx3:op≠3:=hx3
 obtain⟨op',mn',mx',rs',ks'⟩:=y
 replace hy3:op'≠3:=hy3
 rw[z7u]at hr1 hr2⊢
 repeat' first|(apply z05;first|refine z0n ?_| (apply z0l;refine z0b z2e ?_))|(apply z06;first|refine z0m ?_|apply z09)|(apply z07;first|apply z08|apply z00|apply z01)
 all_goals try omega
 refine z6n 4 1000 113 5 rfl rfl rfl ?_
 refine z0r ?_
 refine z1u ?_
 repeat' first|(apply z05;first|refine z0n ?_| (apply z0a;first|refine z5j rfl (z3w _ (e0,X) _) rfl rfl rfl rfl (by decide) ?_|refine z02 z16 rfl rfl ?_| refine z02 z1y rfl rfl ?_)|(apply z0c;refine z02 z0i rfl rfl ?_)|(apply z0t;refine z02 (z0z z1h) rfl rfl ?_)|(apply z0s;refine z7l (g:=rxc) (q:=[]) rfl rfl (Rx.mk op mn mx rs ks) (by rw[z3i];rfl) rfl rfl rfl (z8k _) rfl rfl (by decide) (by decide) ?_)|(apply z0j;first|refine z4u hn1 rfl (z2j (m:=(e0+1,X)) (z3w _ (e0,X) _) (bkT (by repeat (first|exact hT|refine HT.upd ?_ hX0 hX1)))) (by decide) ?_|refine z5r hr1 rfl hX (bkT (by repeat (first|exact hT|refine HT.upd ?_ hX0 hX1))) (by decide) ?_)|(apply z0f;first|refine z5k (raw':=pbx s ((j+1:Nat):Int) 0 0) rfl (z3w _ (e0,X) _) rfl rfl rfl rfl rfl rfl ?_|refine z25 ?_)|(apply z0l;refine z0b z2e ?_)|(apply z3c;refine z3b rfl ?_))|(apply z06;first|refine z0m ?_|apply z09)|(apply z07;first|apply z08|apply z00|refine z15 ?_| apply z04|apply z01|apply z03|refine z0h (fun _=>?_) fun _=>?_)
 all_goals try omega
 refine z4n 25 1000 rfl rfl ?_
 refine z0d (tm':=[(0,.ptr (e0+1,X) 0),(2,.ptr (0,2) 0),(4,.ref (0,1000))]) (hp':=[(1000,.row 113 5 ([Rx.mk op mn mx rs ks].map rxc)),bxZ]) ?_ rfl rfl
 refine z1u ?_
 repeat' first|(apply z05;first|refine z0n ?_| (apply z0a;first|refine z02 z16 rfl rfl ?_| refine z02 z1y rfl rfl ?_)|(apply z0c;refine z02 z0i rfl rfl ?_)|(apply z0s;first|refine z7l (g:=rxc) (q:=[Rx.mk op mn mx rs ks]) rfl rfl (Rx.mk op' mn' mx' rs' ks') (by rw[z3i];rfl) rfl rfl rfl (z8k _) rfl rfl (by decide) (by simp) ?_|refine z02 (z0w rfl) rfl rfl ?_)|(apply z0j;first|(refine z4u hn2 rfl (z2j (m:=(e0+1,X)) (z3w _ (e0,X) _) (bkT (by repeat (first|exact hT|refine HT.upd ?_ hX0 hX1)))) (by decide) ?_;refine zd8 25 rfl ?_)|refine z5r hr2 rfl (z3w _ (e0,X) _) (bkT (by repeat (first|exact hT|refine HT.upd ?_ hX0 hX1))) (by decide) ?_)|(apply z0f;refine z25 ?_)|(apply z0l;refine z0b z2e ?_)|(apply z1n;refine z2y ?_)|(apply z3c;refine z3b rfl ?_))|(apply z06;first|refine z0m ?_|apply z09)|(apply z07;first|apply z08|apply z00|refine z1j ?_| refine z15 ?_| apply z04|apply z01|refine z0h (fun _=>?_) (fun _=>?_)| refine z0o ?_)
 all_goals try omega
 all_goals first
  | ((repeat rw[z3l]);first|exact z0e func120 _ (z11 rfl rfl rfl rfl rfl rfl rfl) ⟨rfl,rfl⟩|exact z0e func120 _ z2s ⟨rfl,rfl⟩|exact z0e func120 _ z0p ⟨rfl,rfl⟩|exact z0e func120 _ (z4i rfl rfl rfl rfl) ⟨rfl,rfl⟩)
end
end Go.Proofs.YtonhfccmeammbaaGreatDoor
