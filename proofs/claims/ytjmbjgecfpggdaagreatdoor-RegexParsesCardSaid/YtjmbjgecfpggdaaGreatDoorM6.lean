/- A part of the proof: Z6. -/
import Derived.Test.YtjmbjgecfpggdaaGreatDoorM4
import Derived.Test.YtjmbjgecfpggdaaGreatDoorM2
set_option linter.all false
set_option linter.unusedVariables false
set_option linter.unusedSimpArgs false
namespace Go.Proofs.YtjmbjgecfpggdaaGreatDoor
open Go.Ab Go.Rx
set_option maxHeartbeats 20000000
set_option maxRecDepth 100000
attribute [local irreducible] Run Ops Op1 z2q Val Tr z1p z2j NF Rel z5b z5c z84
section
variable {s : ByteArray} {us : List U} {qs : List Uq} {X : Nat} (hu : Un5 s us qs)
theorem zr9 {sp : List Int} (hsp : Sp sp) {c : Int} (h : c < 0) : sp.contains c = false := by
 cases h2 : sp.contains c with
 | false => rfl
 | true => have := hsp.rng c (by simpa using h2); omega
theorem zp7 {sp : List Int} (hsp : Sp sp) {i : Nat} (h : nx (us.drop i) = 92) (hi : i < us.length) : z7u sp (us.drop i) = if sp.contains (nx (us.drop (i + 1))) = true then (nx (us.drop (i + 1)), .ok (us.drop (i + 2))) else (0, .er (us.drop (i + 1)) (us.drop (i + 1)) 3) := by
 have h' : us[i].r = 92 := by rw [List.drop_eq_getElem_cons hi] at h; exact h
 by_cases hj : i + 1 < us.length
 · have e1 : us.drop (i + 1) = us[i + 1] :: us.drop (i + 2) := List.drop_eq_getElem_cons hj
   by_cases h2 : sp.contains (us[i + 1]).r = true
   · have hp : z6j sp (us.drop i) = .ok (us[i + 1]).r (us.drop (i + 2)) := by
      rw [List.drop_eq_getElem_cons hi, z36, if_pos h', e1]; simp only; rw [if_pos h2]
     rw [e1, nx, if_pos h2, z7u, hp]
   · have hp : z6j sp (us.drop i) = .err (us.drop (i + 1)) 3 := by
      rw [List.drop_eq_getElem_cons hi, z36, if_pos h', e1]; simp only; rw [if_neg h2]
     rw [show nx (us.drop (i + 1)) = (us[i + 1]).r by rw [e1]; rfl, if_neg h2, z7u, hp]
 · have e1 : us.drop (i + 1) = [] := List.drop_eq_nil_of_le (by omega)
   have hp : z6j sp (us.drop i) = .err [] 3 := by
    rw [List.drop_eq_getElem_cons hi, z36, if_pos h', e1]
   rw [e1, if_neg (by rw [show nx ([] : List U) = -1 from rfl, zr9 hsp (by decide)]; decide), z7u, hp]
theorem zsm {sp : List Int} {i : Nat} (h : nx (us.drop i) ≠ 92) (hr : ∀ u ∈ us, 0 ≤ u.r) : z7u sp (us.drop i) = if nx (us.drop i) < 0 ∨ sp.contains (nx (us.drop i)) = true then (0, .er (us.drop i) (us.drop i) 3) else (nx (us.drop i), .ok (us.drop (i + 1))) := by
 by_cases hi : i < us.length
 · have h0 := hr us[i] (List.getElem_mem hi)
   have hx : nx (us.drop i) = us[i].r := by rw [List.drop_eq_getElem_cons hi]; rfl
   rw [hx] at h ⊢
   by_cases h2 : sp.contains us[i].r = true
   · have hp : z6j sp (us.drop i) = .err (us.drop i) 3 := by
      rw [List.drop_eq_getElem_cons hi, z36, if_neg h, if_pos h2]
     rw [if_pos (.inr h2), z7u, hp]
   · have hp : z6j sp (us.drop i) = .ok us[i].r (us.drop (i + 1)) := by
      rw [List.drop_eq_getElem_cons hi, z36, if_neg h, if_neg h2]
     rw [if_neg (by rintro (h3 | h3); omega; exact h2 h3), z7u, hp]
 · rw [List.drop_eq_nil_of_le (by omega), if_pos (.inl (by decide))]; rfl
theorem zqa (k : Int) {i : Nat} (hr : ∀ u ∈ us, 0 ≤ u.r) : z6r k (us.drop i) = if dgt (nx (us.drop i)) = false then (0, .er (us.drop i) (us.drop i) 3)
  else if 0 < nx (us.drop i) - 48 ∧ nx (us.drop (i + 1)) < 0 then (0, .er (us.drop (i + 1)) (us.drop (i + 1)) 3)
  else if 0 < nx (us.drop i) - 48 ∧ dgt (nx (us.drop (i + 1))) = true then (10 * (nx (us.drop i) - 48) + (nx (us.drop (i + 1)) - 48), if 16 < 10 * (nx (us.drop i) - 48) + (nx (us.drop (i + 1)) - 48) ∨ 10 * (nx (us.drop i) - 48) + (nx (us.drop (i + 1)) - 48) < k then .er (us.drop (i + 2)) (us.drop i) 8 else .ok (us.drop (i + 2)))
  else (nx (us.drop i) - 48, if 16 < nx (us.drop i) - 48 ∨ nx (us.drop i) - 48 < k then .er (us.drop (i + 1)) (us.drop i) 8 else .ok (us.drop (i + 1))) := by
 by_cases hi : i < us.length
 · have hnil : us.drop (i + 1) = [] ↔ nx (us.drop (i + 1)) < 0 := by
    by_cases hj : i + 1 < us.length
    · have h0 := hr us[i + 1] (List.getElem_mem hj)
      rw [List.drop_eq_getElem_cons hj]
      simp only [nx, reduceCtorEq, false_iff]; omega
    · rw [List.drop_eq_nil_of_le (by omega)]; simp [nx]
   have ht : (us.drop (i + 1)).tail = us.drop (i + 2) := List.tail_drop
   rw [List.drop_eq_getElem_cons hi]
   generalize us.drop (i + 1) = R at *
   generalize us.drop (i + 2) = R2 at *
   subst ht
   rw [show nx (us[i] :: R) = us[i].r from rfl, z6r]
   by_cases h1 : dgt us[i].r = false
   · rw [if_pos h1, if_pos h1]
   rw [if_neg h1, if_neg h1]
   by_cases h2 : 0 < us[i].r - 48 ∧ R = []
   · rw [if_pos h2, if_pos ⟨h2.1, hnil.1 h2.2⟩, h2.2]
   · rw [if_neg h2, if_neg (show ¬ (0 < us[i].r - 48 ∧ nx R < 0) from fun h => h2 ⟨h.1, hnil.2 h.2⟩)]
 · rw [List.drop_eq_nil_of_le (by omega)]; rfl
include hu
theorem z8o {sp : List Int} (hsp : Sp sp) (i : Nat) (hi : i ≤ us.length) (e0 : Nat) : z2j Tryz.prog 88 [.ptr (e0, X) 0, S (spB sp)] [((e0, X), rbx s qs i 0 0 false)] [((e0, X), bkS s us qs (z7u sp (us.drop i)).2)] (I .i32 (z7u sp (us.drop i)).1) := by
 refine z2k fun H hH => ?_
 have hX : H e0 X = some (rbx s qs i 0 0 false) := hH ((e0, X), rbx s qs i 0 0 false) (by simp)
 have hn := z81 (X := X) hu i hi 0 0 (e0 + 1)
 have hr := nxr hu i
 have hfw := hu.few
 by_cases h92 : nx (us.drop i) = 92
 · obtain ⟨hlt, _, _⟩ := nxd hu h92 (by decide)
   have hr1 := nxr hu (i + 1)
   have hn1 := z81 (X := X) hu (i + 1) hlt 0 0 (e0 + 1)
   have hy := zj6 (X := X) hu (i + 1) hlt (e0 + 1)
   have hc := zw3 hsp (nx (us.drop (i + 1)))
   rw [zp7 hsp h92 hlt]
   rw [h92] at hn
   by_cases h2 : sp.contains (nx (us.drop (i + 1))) = true
   · rw [h2] at hc
     have hlt1 : i + 1 < us.length := by
      false_or_by_contra
      rw [List.drop_eq_nil_of_le (by omega), zr9 hsp (by decide)] at h2; cases h2
     rw [if_pos h2, z3j (by omega)]
     simp only
     refine z1c Tryz.func88 (by kernel_rfl) rfl (by simp) ?_
     dsimp only [Tryz.f88]
     repeat' (first | (apply z0e; (first | refine z11 rfl (by decide) ?_ | (apply z0a; (first | refine z0q rfl (z02 _ (e0, X) _) rfl rfl rfl rfl (by decide) ?_ | refine z0q rfl hX rfl rfl rfl rfl (by decide) ?_)) | (apply z07; (refine z00 (z04 rfl rfl) rfl rfl (by decide) ?_)) | (apply z13; (refine z00 (z19 (z1o (by omega) (by omega))) rfl rfl (by decide) ?_)) | (apply z0o; (first | refine z0m hn1 rfl (bk1 (m := (e0 + 1, X)) (z02 _ (e0, X) _)) (by decide) ?_ | refine z0m hn rfl (bk1 (m := (e0 + 1, X)) hX) (by decide) ?_ | refine z2v hc rfl (by decide) ?_)) | (apply z05; (first | refine z0w (raw' := rbx s qs ((i + 2 : Nat) : Int) 0 0 false) rfl (z02 _ (e0, X) _) rfl rfl rfl rfl rfl rfl ?_ | refine z0w (raw' := rbx s qs ((i + 1 : Nat) : Int) 0 0 false) rfl hX rfl rfl rfl rfl rfl rfl ?_)))) | (apply z0b; (first | refine z10 ?_ | apply z0d)) | (apply z0c; (first | apply z0f | apply z01 | refine z0r rfl ?_ | refine z0h rfl ?_ | apply z09)))
     all_goals try (exfalso; omega)
     all_goals ((repeat rw [z0i]); exact z0g Tryz.func88 _ (z0j rfl rfl) ⟨rfl, rfl⟩)
   · rw [Bool.not_eq_true] at h2
     rw [h2] at hc
     rw [if_neg (by rw [h2]; decide), z5r (by omega)]
     simp only
     refine z1c Tryz.func88 (by kernel_rfl) rfl (by simp) ?_
     dsimp only [Tryz.f88]
     repeat' (first | (apply z0e; (first | refine z11 rfl (by decide) ?_ | (apply z0a; (refine z0q rfl hX rfl rfl rfl rfl (by decide) ?_)) | (apply z07; (refine z00 (z04 rfl rfl) rfl rfl (by decide) ?_)) | (apply z13; (refine z00 (z19 (z1o (by omega) (by omega))) rfl rfl (by decide) ?_)) | (apply z0o; (first | refine z0v hy rfl (z02 _ (e0, X) _) z1k (by decide) ?_ | refine z0m hn1 rfl (bk1 (m := (e0 + 1, X)) (z02 _ (e0, X) _)) (by decide) ?_ | refine z0m hn rfl (bk1 (m := (e0 + 1, X)) hX) (by decide) ?_ | refine z2v hc rfl (by decide) ?_)) | (apply z05; (refine z0w (raw' := rbx s qs ((i + 1 : Nat) : Int) 0 0 false) rfl hX rfl rfl rfl rfl rfl rfl ?_)))) | (apply z0b; (first | refine z10 ?_ | apply z0d)) | (apply z0c; (first | apply z0f | apply z01 | refine z0r rfl ?_)))
     all_goals try (exfalso; omega)
     all_goals ((repeat rw [z0i]); exact z0g Tryz.func88 _ (z0j rfl rfl) ⟨rfl, rfl⟩)
 · have hy := zj6 (X := X) hu i hi (e0 + 1)
   have hc := zw3 hsp (nx (us.drop i))
   rw [zsm h92 fun u h => (hu.rng u h).1]
   by_cases h0 : nx (us.drop i) < 0
   · rw [if_pos (.inl h0), z5r hi]
     simp only
     refine z1c Tryz.func88 (by kernel_rfl) rfl (by simp) ?_
     dsimp only [Tryz.f88]
     repeat' (first | (apply z0e; (first | refine z11 rfl (by decide) ?_ | (apply z0a; (refine z0q rfl hX rfl rfl rfl rfl (by decide) ?_)) | (apply z07; (refine z00 (z04 rfl rfl) rfl rfl (by decide) ?_)) | (apply z13; (refine z00 (z19 (z1o (by omega) (by omega))) rfl rfl (by decide) ?_)) | (apply z0o; (first | refine z0v hy rfl hX z1k (by decide) ?_ | refine z0m hn rfl (bk1 (m := (e0 + 1, X)) hX) (by decide) ?_ | refine z2v hc rfl (by decide) ?_)))) | (apply z0b; (first | refine z10 ?_ | apply z0d | refine z2f rfl rfl (by decide) ?_ | refine z16 rfl rfl (fun _ => ?_) (fun _ => ?_))) | (apply z0c; (first | apply z0f | apply z01 | refine z0r rfl ?_ | apply z09 | refine z1i rfl (fun _ => ?_) (fun _ => ?_) | refine z6x rfl (fun _ => ?_) (fun _ => ?_))))
     all_goals try (exfalso; omega)
     all_goals ((repeat rw [z0i]); exact z0g Tryz.func88 _ (z0j rfl rfl) ⟨rfl, rfl⟩)
   · obtain ⟨hlt, _, _⟩ := nxd hu (rfl : nx (us.drop i) = _) (by omega)
     by_cases h2 : sp.contains (nx (us.drop i)) = true
     · rw [if_pos (.inr h2), z5r hi]
       rw [h2] at hc
       simp only
       refine z1c Tryz.func88 (by kernel_rfl) rfl (by simp) ?_
       dsimp only [Tryz.f88]
       repeat' (first | (apply z0e; (first | refine z11 rfl (by decide) ?_ | (apply z0a; (refine z0q rfl hX rfl rfl rfl rfl (by decide) ?_)) | (apply z07; (refine z00 (z04 rfl rfl) rfl rfl (by decide) ?_)) | (apply z13; (refine z00 (z19 (z1o (by omega) (by omega))) rfl rfl (by decide) ?_)) | (apply z0o; (first | refine z0v hy rfl hX z1k (by decide) ?_ | refine z0m hn rfl (bk1 (m := (e0 + 1, X)) hX) (by decide) ?_ | refine z2v hc rfl (by decide) ?_)))) | (apply z0b; (first | refine z10 ?_ | apply z0d | refine z2f rfl rfl (by decide) ?_ | refine z16 rfl rfl (fun _ => ?_) (fun _ => ?_))) | (apply z0c; (first | apply z0f | apply z01 | refine z0r rfl ?_ | apply z09 | refine z1i rfl (fun _ => ?_) (fun _ => ?_))))
       all_goals try (exfalso; omega)
       all_goals ((repeat rw [z0i]); exact z0g Tryz.func88 _ (z0j rfl rfl) ⟨rfl, rfl⟩)
     · rw [if_neg (by rintro (h3 | h3); exact h0 h3; exact h2 h3), z3j (by omega)]
       rw [Bool.not_eq_true] at h2
       rw [h2] at hc
       simp only
       refine z1c Tryz.func88 (by kernel_rfl) rfl (by simp) ?_
       dsimp only [Tryz.f88]
       repeat' (first | (apply z0e; (first | refine z11 rfl (by decide) ?_ | (apply z0a; (refine z0q rfl hX rfl rfl rfl rfl (by decide) ?_)) | (apply z07; (refine z00 (z04 rfl rfl) rfl rfl (by decide) ?_)) | (apply z13; (refine z00 (z19 (z1o (by omega) (by omega))) rfl rfl (by decide) ?_)) | (apply z0o; (first | refine z0m hn rfl (bk1 (m := (e0 + 1, X)) hX) (by decide) ?_ | refine z2v hc rfl (by decide) ?_)) | (apply z05; (refine z0w (raw' := rbx s qs ((i + 1 : Nat) : Int) 0 0 false) rfl hX rfl rfl rfl rfl rfl rfl ?_)))) | (apply z0b; (first | refine z10 ?_ | apply z0d | refine z2f rfl rfl (by decide) ?_ | refine z16 rfl rfl (fun _ => ?_) (fun _ => ?_))) | (apply z0c; (first | apply z0f | apply z01 | refine z0r rfl ?_ | refine z0h rfl ?_ | apply z09 | refine z1i rfl (fun _ => ?_) (fun _ => ?_))))
       all_goals try (exfalso; omega)
       all_goals ((repeat rw [z0i]); exact z0g Tryz.func88 _ (z0j rfl rfl) ⟨rfl, rfl⟩)
theorem zfd (k : Int) (k0 : 0 ≤ k) (k1 : k ≤ 99) (i : Nat) (hi : i ≤ us.length) (e0 : Nat) : z2j Tryz.prog 72 [.ptr (e0, X) 0, I .i64 k] [((e0, X), rbx s qs i 0 0 false)] [((e0, X), bkS s us qs (z6r k (us.drop i)).2)] (I .i64 (z6r k (us.drop i)).1) := by
 refine z2k fun H hH => ?_
 have hX : H e0 X = some (rbx s qs i 0 0 false) := hH ((e0, X), rbx s qs i 0 0 false) (by simp)
 have hd := ziq (X := X) hu i hi (e0 + 1)
 have hp := z9w (X := X) hu i hi i 0 0 false (e0 + 1)
 have hy := zj6 (X := X) hu i hi (e0 + 1)
 have hr := nxr hu i
 have hfw := hu.few
 rw [zqa k fun u h => (hu.rng u h).1]
 by_cases h1 : dgt (nx (us.drop i)) = true
 · have h1' := zoa h1
   rw [if_neg (by rw [h1]; decide)]
   rw [if_pos h1, if_pos h1] at hd
   obtain ⟨hlt, _, _⟩ := nxd hu (rfl : nx (us.drop i) = _) (by omega)
   have hd1 := ziq (X := X) hu (i + 1) hlt (e0 + 1)
   have hn1 := z81 (X := X) hu (i + 1) hlt 0 0 (e0 + 1)
   have hy1 := zj6 (X := X) hu (i + 1) hlt (e0 + 1)
   have hf1 := ziv (X := X) (s := s) (qs := qs) ((i + 1 : Nat) : Int) (pl s us i) 8 (e0 + 1)
   have hr1 := nxr hu (i + 1)
   generalize nx (us.drop i) = c at *
   by_cases h2 : 0 < c - 48
   · by_cases h3 : dgt (nx (us.drop (i + 1))) = true
     · have h3' := zoa h3
       obtain ⟨hlt1, _, _⟩ := nxd hu (rfl : nx (us.drop (i + 1)) = _) (by omega)
       rw [if_pos h3, if_pos h3] at hd1
       have hf2 := ziv (X := X) (s := s) (qs := qs) ((i + 1 + 1 : Nat) : Int) (pl s us i) 8 (e0 + 1)
       rw [if_neg (by omega), if_pos ⟨h2, h3⟩]
       simp only
       generalize nx (us.drop (i + 1)) = d at *
       by_cases h4 : 16 < 10 * (c - 48) + (d - 48) ∨ 10 * (c - 48) + (d - 48) < k
       · rw [if_pos h4, z5r (by omega)]
         refine z1c Tryz.func72 (by kernel_rfl) rfl (by simp) ?_
         dsimp only [Tryz.f72]
         repeat' (first | (apply z0e; (first | refine z11 rfl (by decide) ?_ | (apply z0a; (refine z0q rfl hX rfl rfl rfl rfl (by decide) ?_)) | (apply z07; (refine z00 (z04 rfl rfl) rfl rfl (by decide) ?_)) | (apply z13; (first | refine z00 (z19 (z1o (by omega) (by omega))) rfl rfl (by decide) ?_ | refine z00 (z95 (z1o (by omega) (by omega))) rfl rfl (by decide) ?_)) | (apply z0o; (first | refine z0v hf2 rfl (z02 _ (e0, X) _) z1k (by decide) ?_ | refine z0v hd1 rfl (z02 _ (e0, X) _) z1k (by decide) ?_ | refine z0v hd rfl hX z1k (by decide) ?_ | refine z0m hp rfl (bk1 (m := (e0 + 1, X)) hX) (by decide) ?_)))) | (apply z0b; (first | refine z10 ?_ | apply z0d | refine z2f rfl rfl (by decide) ?_ | refine z16 rfl rfl (fun _ => ?_) (fun _ => ?_))) | (apply z0c; (first | apply z0f | apply z01 | refine z0r rfl ?_ | apply z09 | refine z1i rfl (fun _ => ?_) (fun _ => ?_))))
         all_goals try (exfalso; omega)
         all_goals ((repeat rw [z0i]); exact z0g Tryz.func72 _ (z0j rfl rfl) ⟨rfl, rfl⟩)
       · rw [if_neg h4, z3j (by omega)]
         refine z1c Tryz.func72 (by kernel_rfl) rfl (by simp) ?_
         dsimp only [Tryz.f72]
         repeat' (first | (apply z0e; (first | refine z11 rfl (by decide) ?_ | (apply z0a; (refine z0q rfl hX rfl rfl rfl rfl (by decide) ?_)) | (apply z07; (refine z00 (z04 rfl rfl) rfl rfl (by decide) ?_)) | (apply z13; (first | refine z00 (z19 (z1o (by omega) (by omega))) rfl rfl (by decide) ?_ | refine z00 (z95 (z1o (by omega) (by omega))) rfl rfl (by decide) ?_)) | (apply z0o; (first | refine z0v hd1 rfl (z02 _ (e0, X) _) z1k (by decide) ?_ | refine z0v hd rfl hX z1k (by decide) ?_ | refine z0m hp rfl (bk1 (m := (e0 + 1, X)) hX) (by decide) ?_)))) | (apply z0b; (first | refine z10 ?_ | apply z0d | refine z2f rfl rfl (by decide) ?_ | refine z16 rfl rfl (fun _ => ?_) (fun _ => ?_))) | (apply z0c; (first | apply z0f | apply z01 | refine z0r rfl ?_ | apply z09 | refine z1i rfl (fun _ => ?_) (fun _ => ?_))))
         all_goals try (exfalso; omega)
         all_goals ((repeat rw [z0i]); exact z0g Tryz.func72 _ (z0j rfl rfl) ⟨rfl, rfl⟩)
     · rw [if_neg h3, if_neg h3] at hd1
       by_cases h5 : nx (us.drop (i + 1)) < 0
       · rw [if_pos ⟨h2, h5⟩, z5r (by omega)]
         simp only
         refine z1c Tryz.func72 (by kernel_rfl) rfl (by simp) ?_
         dsimp only [Tryz.f72]
         repeat' (first | (apply z0e; (first | refine z11 rfl (by decide) ?_ | (apply z0a; (refine z0q rfl hX rfl rfl rfl rfl (by decide) ?_)) | (apply z07; (refine z00 (z04 rfl rfl) rfl rfl (by decide) ?_)) | (apply z0o; (first | refine z0v hy1 rfl (z02 _ (e0, X) _) z1k (by decide) ?_ | refine z0m hn1 rfl (bk1 (m := (e0 + 1, X)) (z02 _ (e0, X) _)) (by decide) ?_ | refine z0v hd1 rfl (z02 _ (e0, X) _) z1k (by decide) ?_ | refine z0v hd rfl hX z1k (by decide) ?_ | refine z0m hp rfl (bk1 (m := (e0 + 1, X)) hX) (by decide) ?_)))) | (apply z0b; (first | refine z10 ?_ | apply z0d | refine z2f rfl rfl (by decide) ?_ | refine z16 rfl rfl (fun _ => ?_) (fun _ => ?_))) | (apply z0c; (first | apply z0f | apply z01 | refine z0r rfl ?_ | refine z0h rfl ?_ | apply z09 | refine z1i rfl (fun _ => ?_) (fun _ => ?_))))
         all_goals try (exfalso; omega)
         all_goals ((repeat rw [z0i]); exact z0g Tryz.func72 _ (z0j rfl rfl) ⟨rfl, rfl⟩)
       · rw [if_neg (fun h => h5 h.2), if_neg (fun h => h3 h.2)]
         simp only
         by_cases h4 : 16 < c - 48 ∨ c - 48 < k
         · rw [if_pos h4, z5r (by omega)]
           refine z1c Tryz.func72 (by kernel_rfl) rfl (by simp) ?_
           dsimp only [Tryz.f72]
           repeat' (first | (apply z0e; (first | refine z11 rfl (by decide) ?_ | (apply z0a; (refine z0q rfl hX rfl rfl rfl rfl (by decide) ?_)) | (apply z07; (refine z00 (z04 rfl rfl) rfl rfl (by decide) ?_)) | (apply z0o; (first | refine z0v hf1 rfl (z02 _ (e0, X) _) z1k (by decide) ?_ | refine z0m hn1 rfl (bk1 (m := (e0 + 1, X)) (z02 _ (e0, X) _)) (by decide) ?_ | refine z0v hd1 rfl (z02 _ (e0, X) _) z1k (by decide) ?_ | refine z0v hd rfl hX z1k (by decide) ?_ | refine z0m hp rfl (bk1 (m := (e0 + 1, X)) hX) (by decide) ?_)))) | (apply z0b; (first | refine z10 ?_ | apply z0d | refine z2f rfl rfl (by decide) ?_ | refine z16 rfl rfl (fun _ => ?_) (fun _ => ?_))) | (apply z0c; (first | apply z0f | apply z01 | refine z0r rfl ?_ | refine z0h rfl ?_ | apply z09 | refine z1i rfl (fun _ => ?_) (fun _ => ?_))))
           all_goals try (exfalso; omega)
           all_goals ((repeat rw [z0i]); exact z0g Tryz.func72 _ (z0j rfl rfl) ⟨rfl, rfl⟩)
         · rw [if_neg h4, z3j (by omega)]
           refine z1c Tryz.func72 (by kernel_rfl) rfl (by simp) ?_
           dsimp only [Tryz.f72]
           repeat' (first | (apply z0e; (first | refine z11 rfl (by decide) ?_ | (apply z0a; (refine z0q rfl hX rfl rfl rfl rfl (by decide) ?_)) | (apply z07; (refine z00 (z04 rfl rfl) rfl rfl (by decide) ?_)) | (apply z0o; (first | refine z0m hn1 rfl (bk1 (m := (e0 + 1, X)) (z02 _ (e0, X) _)) (by decide) ?_ | refine z0v hd1 rfl (z02 _ (e0, X) _) z1k (by decide) ?_ | refine z0v hd rfl hX z1k (by decide) ?_ | refine z0m hp rfl (bk1 (m := (e0 + 1, X)) hX) (by decide) ?_)))) | (apply z0b; (first | refine z10 ?_ | apply z0d | refine z2f rfl rfl (by decide) ?_ | refine z16 rfl rfl (fun _ => ?_) (fun _ => ?_))) | (apply z0c; (first | apply z0f | apply z01 | refine z0r rfl ?_ | refine z0h rfl ?_ | apply z09 | refine z1i rfl (fun _ => ?_) (fun _ => ?_))))
           all_goals try (exfalso; omega)
           all_goals ((repeat rw [z0i]); exact z0g Tryz.func72 _ (z0j rfl rfl) ⟨rfl, rfl⟩)
   · rw [if_neg (fun h => h2 h.1), if_neg (fun h => h2 h.1)]
     simp only
     by_cases h4 : 16 < c - 48 ∨ c - 48 < k
     · rw [if_pos h4, z5r (by omega)]
       refine z1c Tryz.func72 (by kernel_rfl) rfl (by simp) ?_
       dsimp only [Tryz.f72]
       repeat' (first | (apply z0e; (first | refine z11 rfl (by decide) ?_ | (apply z0a; (refine z0q rfl hX rfl rfl rfl rfl (by decide) ?_)) | (apply z07; (refine z00 (z04 rfl rfl) rfl rfl (by decide) ?_)) | (apply z0o; (first | refine z0v hf1 rfl (z02 _ (e0, X) _) z1k (by decide) ?_ | refine z0v hd rfl hX z1k (by decide) ?_ | refine z0m hp rfl (bk1 (m := (e0 + 1, X)) hX) (by decide) ?_)))) | (apply z0b; (first | refine z10 ?_ | apply z0d | refine z2f rfl rfl (by decide) ?_ | refine z16 rfl rfl (fun _ => ?_) (fun _ => ?_))) | (apply z0c; (first | apply z0f | apply z01 | refine z0r rfl ?_ | apply z09 | refine z1i rfl (fun _ => ?_) (fun _ => ?_))))
       all_goals try (exfalso; omega)
       all_goals ((repeat rw [z0i]); exact z0g Tryz.func72 _ (z0j rfl rfl) ⟨rfl, rfl⟩)
     · rw [if_neg h4, z3j (by omega)]
       refine z1c Tryz.func72 (by kernel_rfl) rfl (by simp) ?_
       dsimp only [Tryz.f72]
       repeat' (first | (apply z0e; (first | refine z11 rfl (by decide) ?_ | (apply z0a; (refine z0q rfl hX rfl rfl rfl rfl (by decide) ?_)) | (apply z07; (refine z00 (z04 rfl rfl) rfl rfl (by decide) ?_)) | (apply z0o; (first | refine z0v hd rfl hX z1k (by decide) ?_ | refine z0m hp rfl (bk1 (m := (e0 + 1, X)) hX) (by decide) ?_)))) | (apply z0b; (first | refine z10 ?_ | apply z0d | refine z2f rfl rfl (by decide) ?_ | refine z16 rfl rfl (fun _ => ?_) (fun _ => ?_))) | (apply z0c; (first | apply z0f | apply z01 | refine z0r rfl ?_ | apply z09 | refine z1i rfl (fun _ => ?_) (fun _ => ?_))))
       all_goals try (exfalso; omega)
       all_goals ((repeat rw [z0i]); exact z0g Tryz.func72 _ (z0j rfl rfl) ⟨rfl, rfl⟩)
 · rw [if_neg h1, if_neg h1] at hd
   rw [if_pos (by simpa using h1), z5r hi]
   simp only
   refine z1c Tryz.func72 (by kernel_rfl) rfl (by simp) ?_
   dsimp only [Tryz.f72]
   repeat' (first | (apply z0e; (first | refine z11 rfl (by decide) ?_ | (apply z0a; (refine z0q rfl hX rfl rfl rfl rfl (by decide) ?_)) | (apply z07; (refine z00 (z04 rfl rfl) rfl rfl (by decide) ?_)) | (apply z0o; (first | refine z0v hy rfl (z02 _ (e0, X) _) z1k (by decide) ?_ | refine z0v hd rfl hX z1k (by decide) ?_ | refine z0m hp rfl (bk1 (m := (e0 + 1, X)) hX) (by decide) ?_)))) | (apply z0b; (first | refine z10 ?_ | apply z0d)) | (apply z0c; (first | apply z0f | apply z01 | refine z0r rfl ?_)))
   all_goals try (exfalso; omega)
   all_goals ((repeat rw [z0i]); exact z0g Tryz.func72 _ (z0j rfl rfl) ⟨rfl, rfl⟩)
end
end Go.Proofs.YtjmbjgecfpggdaaGreatDoor
