/- A part of the proof: G29, G32. -/
import Derived.Test.YthdfkabdoidjfaaGreatDoorRq
import Derived.Test.YthdfkabdoidjfaaGreatDoorRr
import Derived.Test.YthdfkabdoidjfaaGreatDoorRp
import Derived.Test.YthdfkabdoidjfaaGreatDoorRx
import Derived.Test.YthdfkabdoidjfaaGreatDoorRu
import Derived.Test.YthdfkabdoidjfaaGreatDoorRc
set_option linter.all false
set_option linter.unusedVariables false
set_option linter.unusedSimpArgs false
namespace Go.Proofs.YthdfkabdoidjfaaGreatDoor
open Go.Ab Go.Rx
set_option maxHeartbeats 20000000
set_option maxRecDepth 100000
attribute [local irreducible] Run Ops Op1 z2f Val Tr z1f z2d NF Rel z47 z48 zd5
theorem zrh (l : List Rg) (c : Int) : inB l c = inR l c := rfl
theorem zqp : ∀ (l : List U) (i : Nat), (unF i l).all okU = l.all zxx
 | [], i => rfl
 | u :: l, i => by
  rw [unF, List.all_cons, List.all_cons, zqp l]
  congr 1
  simp only [okU, zxx]
  congr 1
  rw [decide_eq_decide]; omega
theorem zqq (S : Nat) : ∀ (l : List Nat) (i acc : Nat), acc < 2 ^ 64 → (∀ x ∈ l, x < 2 ^ 64) → nxF S i acc l < 2 ^ 64
 | [], i, acc, h, _ => h
 | x :: l, i, acc, h, hl => by
  rw [nxF]
  refine zqq S l _ _ ?_ (fun y hy => hl y (by simp [hy]))
  split
  · exact Nat.or_lt_two_pow h (hl x (by simp))
  · exact h
theorem zvq {e : Rx} (h : val e = 0) : Rx.pn e ≤ 64 := by
 rw [val] at h
 split at h
 · simp at h
 split at h
 · simp at h
 split at h
 · simp at h
 · omega
end Go.Proofs.YthdfkabdoidjfaaGreatDoor
namespace Go.Proofs.YthdfkabdoidjfaaGreatDoor
open Go.Ab Go.Rx
set_option maxHeartbeats 20000000
set_option maxRecDepth 100000
attribute [local irreducible] Run Ops Op1 z2f Val Tr z1f z2d NF Rel z47 z48 zd5
theorem zeu {H : Hf} {A B : Blk} (h0 : H 0 700 = some A) (h1 : H 0 701 = some B) : upd (upd (upd (upd H (0, 700) .gone) (0, 701) .gone) (0, 700) A) (0, 701) B = H := by
 funext d s
 simp only [upd]
 by_cases a : d = 0 ∧ s = 701
 · rw [if_pos a, a.1, a.2, h1]
 rw [if_neg a]
 by_cases b : d = 0 ∧ s = 700
 · rw [if_pos b, b.1, b.2, h0]
 · rw [if_neg b, if_neg a, if_neg b]
end Go.Proofs.YthdfkabdoidjfaaGreatDoor
