/- A part of the proof: Z12. -/
import Derived.Test.YtjmbjgecfpggdaaGreatDoorM11
import Derived.Test.YtjmbjgecfpggdaaGreatDoorM47
import Derived.Test.YtjmbjgecfpggdaaGreatDoorRz
import Derived.Test.YtjmbjgecfpggdaaGreatDoorRv
set_option linter.all false
set_option linter.unusedVariables false
set_option linter.unusedSimpArgs false
namespace Go.Proofs.YtjmbjgecfpggdaaGreatDoor
open Go.Ab Go.Rx
set_option maxHeartbeats 20000000
set_option maxRecDepth 100000
attribute [local irreducible] Run Ops Op1 z2q Val Tr z1p z2j NF Rel z5b z5c z84
theorem ztu {s : ByteArray} {i : Nat} (h : i < s.size) (h2 : (Utf8.decode s i).1 = 65533) : (Utf8.decode s i).2 = 1 ∨ (Utf8.decode s i).2 = 3 := by
 rw [zbs s i h] at h2 ⊢
 cases hd : (btN s).drop i with
 | nil => exact .inl rfl
 | cons b r =>
  rw [hd] at h2
  change (dc b r).1 = 65533 at h2
  show (dc b r).2 = 1 ∨ (dc b r).2 = 3
  have hc := zh5 b r
  generalize dc b r = q at hc h2
  cases hc with
  | one h => simp only at h2; omega
  | two x r' hr hx hb h => simp only at h2; omega
  | three x y r' hr hx hy hb h => exact .inr rfl
  | four x y z r' hr hx hy hz hb h => simp only at h2; omega
  | bad h => exact .inl rfl
theorem zcc (s : ByteArray) : ∀ (f i : Nat), s.size - i ≤ f → ∀ u ∈ rst s i, (0 ≤ u.r ∧ u.r ≤ 1114111) ∧ (u.r = 65533 → u.n = 1 ∨ u.n = 3)
 | 0, i, h, u, hu => by rw [z34 (by omega)] at hu; simp at hu
 | f + 1, i, h, u, hu => by
  by_cases hi : i < s.size
  · have hw := z7e s i hi
    have hh := zcz s i
    have hf := ztu hi
    rw [z4b hi, List.mem_cons] at hu
    rcases hu with rfl | hu
    · exact ⟨⟨by simp, by simp only; omega⟩, fun h => hf (by simp only at h; omega)⟩
    · exact zcc s f _ (by omega) u hu
  · rw [z34 (by omega)] at hu; simp at hu
theorem zrf : ∀ (l : List U) (k : Nat), (uQ k l).map okf = (unF k l).map fun u => okf (u.1, u.2.1, u.2.2, false)
 | [], k => rfl
 | u :: l, k => by rw [uQ, unF, List.map_cons, List.map_cons, zrf l]
theorem zg0 : ∀ (l : List U) (k i : Nat) (u : U), l[i]? = some u → (unF k l)[i]? = some (u.r, ((k + bts l - bts (l.drop i) : Nat) : Int), (u.n : Int))
 | [], k, i, u, h => by simp at h
 | v :: l, k, 0, u, h => by
  simp only [List.getElem?_cons_zero, Option.some.injEq] at h
  subst h
  rw [unF, List.getElem?_cons_zero, List.drop_zero, Nat.add_sub_cancel]
 | v :: l, k, i + 1, u, h => by
  rw [List.getElem?_cons_succ] at h
  rw [unF, List.getElem?_cons_succ, zg0 l _ i u h, List.drop_succ_cons, bts, Nat.add_assoc]
theorem zu6 (s : ByteArray) (hs : s.size ≤ 1000000) : Un5 s (rst s 0) ((uQ 0 (rst s 0)).map okf) where
 len := by rw [List.length_map, zlw]
 get := fun i u h => by
  have h1 := zg0 (rst s 0) 0 i u h
  have h2 := z62 (s := s) (i := 0) (Nat.zero_le _)
  rw [zrf, List.getElem?_map, h1]
  rw [h2]
  refine ⟨(u.n : Int), (okf (u.r, ((s.size - bts ((rst s 0).drop i) : Nat) : Int), (u.n : Int), false)).2.2.2, ?_⟩
  rw [Nat.zero_add, Nat.sub_zero]; rfl
 few := by have := z6t s _ 0 (Nat.le_refl _); omega
 rng := fun u h => (zcc s _ 0 (Nat.le_refl _) u h).1
theorem zsq {u : U} (h : u.r = 65533 → u.n = 1 ∨ u.n = 3) (k : Int) : (okf (u.r, k, (u.n : Int), false)).2.2.2 = !zbd (u.r, k, (u.n : Int)) := by
 simp only [okf, zbd]
 by_cases h1 : u.r = 65533
 · rcases h h1 with h2 | h2 <;> simp [h1, h2]
 · simp [h1]
theorem zcx (s : ByteArray) : fit (z4q s).1 := by
 have hn : fit zau := by simp [zau, fit, zgv]
 rw [z4q]
 split
 · exact hn
 split
 · exact hn
 rw [z88]
 split
 · exact hn
 · exact hn
 · split
   · exact hn
   · rename_i h; exact zpo (Classical.not_not.1 h)
 · exact hn
end Go.Proofs.YtjmbjgecfpggdaaGreatDoor
