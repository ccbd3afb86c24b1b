/- A part of the proof: G11, G12. -/
import Derived.Test.YthdfkabdoidjfaaGreatDoorRs
import Derived.Shelf.SlSortCmp.NoneTotal
import Derived.Test.YthdfkabdoidjfaaGreatDoorProg
import Derived.Test.YthdfkabdoidjfaaGreatDoorRc
import Derived.Shelf.GgSortFunc.InsertionK
import Derived.Test.YthdfkabdoidjfaaGreatDoorRx
set_option linter.all false
set_option linter.unusedVariables false
set_option linter.unusedSimpArgs false
namespace Go.Proofs.YthdfkabdoidjfaaGreatDoor
open Go.Ab Go.Rx
set_option maxHeartbeats 20000000
set_option maxRecDepth 100000
attribute [local irreducible] Run Ops Op1 z2f Val Tr z1f z2d NF Rel z47 z48
abbrev eX (e : Rx) : D := .agg (rxc e)
section
variable {X : Nat} (hX0 : X ≠ 700) (hX1 : X ≠ 701) (τ : Tab) (s : ByteArray) (hs : s.size ≤ 1000000)
include hX0 hX1 hs
end
end Go.Proofs.YthdfkabdoidjfaaGreatDoor
namespace Go.Proofs.YthdfkabdoidjfaaGreatDoor
open Go.Ab Go.Rx
set_option maxHeartbeats 20000000
set_option maxRecDepth 100000
attribute [local irreducible] Run Ops Op1 z2f Val Tr z1f z2d NF Rel z47 z48
theorem zxd (a b : Int) : z1f Tryz.prog 147 [I .i32 a, I .i32 b] (.d (eX (Rx.one a b))) := by
 refine z1x fun H => ?_
 refine z0t Tryz.func147 (by kernel_rfl) rfl (by simp) ?_
 dsimp only [Tryz.f147]
 repeat' (first | (apply z0c; (first | refine z0v rfl (by decide) ?_ | (apply z0f; (refine z08 rfl rfl rfl rfl rfl rfl ?_)) | (apply z0l; (refine z07 (z0k rfl rfl (by decide)) ?_)) | (apply z0z; (refine z10 rfl rfl rfl rfl rfl rfl rfl (by decide) ?_)) | (apply z2j; (refine z2q rfl rfl rfl rfl rfl rfl rfl rfl (by decide) ?_)))) | (apply z0b; (first | refine z0u ?_ | apply z0a)) | (apply z0d; (first | apply z0e | apply z01)))
 all_goals try (exfalso; omega)
 exact z0r Tryz.func147 _ (z30 rfl rfl rfl rfl rfl rfl) ⟨rfl, rfl⟩
theorem zla (a b : Int) : eX (Rx.one a b) = .agg [z2x 1, z2x 0, z2x 0, rgs [(a, b)], .slice []] := rfl
theorem zer (op mn mx : Int) (rs : List Rg) (ks : List Rx) : eX (.mk op mn mx rs ks) = .agg (rx5 op mn mx rs ks) := by rw [eX, z43]
section
variable {X : Nat} (hX0 : X ≠ 700) (hX1 : X ≠ 701) (τ : Tab) (s : ByteArray) (hs : s.size ≤ 1000000)
include hX0 hX1 hs
end
end Go.Proofs.YthdfkabdoidjfaaGreatDoor
