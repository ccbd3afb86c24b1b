/- A part of the proof: A1, A2, A3, A6, A7, A8, A9, A4, A5. -/
import Derived.Test.YthdfkabdoidjfaaGreatDoorQt
import Derived.Test.YthdfkabdoidjfaaGreatDoorQy
import Derived.Test.YthdfkabdoidjfaaGreatDoorQc
import Derived.Test.YthdfkabdoidjfaaGreatDoorQr
import Derived.Test.YthdfkabdoidjfaaGreatDoorQv
set_option linter.all false
set_option linter.unusedVariables false
set_option linter.unusedSimpArgs false
namespace Go.Proofs.YthdfkabdoidjfaaGreatDoor
open Go.Ab Go.Ax
set_option maxHeartbeats 20000000
set_option maxRecDepth 100000
attribute [local irreducible] Run Ops Op1 z23 Val Tr z13 z22 NF Rel z4e z4d
/-- automata as data -/
abbrev z2r (x : Arc) : List D := [z56 x.1, z56 x.2.1, z2j x.2.2]
abbrev z8m (l : List Arc) : D := .slice (l.map z2r)
abbrev z5m (l : List Arc) : List D := [z8m l]
abbrev zkr (F : List Bool) : D := .slice (F.map fun b => [z7w b])
abbrev auc (a : Au) : List D := [zkr a.F, .slice (a.A.map z5m)]
abbrev auD (a : Au) : D := .agg (auc a)
/-- lengths that Go has -/
def zg4 (a : Au) : Prop := a.F.length ≤ 9223372036854775807 ∧ a.A.length ≤ 9223372036854775807 ∧ ∀ l ∈ a.A, l.length ≤ 9223372036854775807
def zhl (l : List Arc) (i : Nat) : Option Arc := if i = 0 then none else l[i - 1]?
theorem zdj (a : Au) (hf : zg4 a) : z13 Tryz.prog 16 [.d (auD a)] (I .i64 (vAu a)) := by
 obtain ⟨F, A⟩ := a
 obtain ⟨f1, f2, f3⟩ := hf
 simp only at f1 f2 f3
 refine z1k fun H => ?_
 refine z0k Tryz.func16 (by kernel_rfl) rfl (by simp) ?_
 dsimp only [Tryz.f16]
 rw [vAu]
 simp only
 by_cases h1 : 256 < F.length
 · rw [if_pos h1]
   repeat' (first | (apply z0a; (first | refine z0n ?_| (apply z06; (refine z02 z1e rfl rfl ?_)) | (apply z0d; (refine z02 z0i rfl rfl ?_)) | (apply z0x; (refine z02 (z1i rfl) rfl rfl ?_)) | (apply z1q; (refine z05 z3z ?_)))) | (apply z09; (first | refine z0m ?_ | apply z07 | refine z1r ?_| refine z2k (fun _ => ?_) (fun _ => ?_))) | (apply z08; (first | apply z0b | apply z00 | refine z1g ?_| apply z04 | apply z01 | apply z03 | refine z0h (fun _ => ?_) (fun _ => ?_)| refine z50 rfl (fun _ => ?_) (fun _ => ?_))))
   all_goals try (exfalso; simp only [List.length_map] at *; omega)
   all_goals exact z0j Tryz.func16 _ z15 ⟨rfl, rfl⟩
 rw [if_neg h1]
 by_cases h2 : F.length = 0 ∨ A.length ≠ F.length
 · rw [if_pos h2]
   repeat' (first | (apply z0a; (first | refine z0n ?_| (apply z06; (refine z02 z1e rfl rfl ?_)) | (apply z0d; (refine z02 z0i rfl rfl ?_)) | (apply z0x; (refine z02 (z1i rfl) rfl rfl ?_)) | (apply z1q; (refine z05 z3z ?_)))) | (apply z09; (first | refine z0m ?_ | apply z07 | refine z1r ?_| refine z2k (fun _ => ?_) (fun _ => ?_))) | (apply z08; (first | apply z0b | apply z00 | refine z1g ?_| apply z04 | apply z01 | apply z03 | refine z0h (fun _ => ?_) (fun _ => ?_)| refine z50 rfl (fun _ => ?_) (fun _ => ?_))))
   all_goals try (exfalso; simp only [List.length_map] at *; omega)
   all_goals exact z0j Tryz.func16 _ z15 ⟨rfl, rfl⟩
 rw [if_neg h2]
 have e1 : A.length = F.length := by omega
 have e2 : 0 < F.length := by omega
 repeat' (first | (apply z0a; (first | refine z0n ?_| (apply z06; (refine z02 z1e rfl rfl ?_)) | (apply z0d; (refine z02 z0i rfl rfl ?_)) | (apply z0x; (refine z02 (z1i rfl) rfl rfl ?_)) | (apply z1q; (refine z05 z3z ?_)))) | (apply z09; (first | refine z0m ?_ | apply z07 | refine z1r ?_| refine z2k (fun _ => ?_) (fun _ => ?_))) | (apply z08; (first | apply z0b | apply z00 | refine z1g ?_| apply z04 | apply z01 | apply z03 | refine z0h (fun _ => ?_) (fun _ => ?_)| refine z50 rfl (fun _ => ?_) (fun _ => ?_))))
 all_goals try (exfalso; simp only [List.length_map] at *; omega)
 refine z1f ?_
 refine z0f (z2f (fun q : Nat => ⟨99, [(1, .ptr (0, 1) 0), (3, I .i64 F.length), (25, .d (.slice (A.map z5m))), (26, I .i64 A.length), (27, I .i64 (q : Nat))], [(1, .box [.d (zkr F), .d (.slice (A.map z5m))])], H⟩) (fun q => q ≤ A.length ∧ za4 F.length (A.drop q) = za4 F.length A) (fun q => A.length - q) ?_ 0 ⟨Nat.zero_le _, rfl⟩) rfl rfl
 rintro i ⟨i1, i2⟩ ih
 by_cases hlt : i < A.length
 · obtain ⟨l, hl⟩ : ∃ l, A[i]? = some l := ⟨_, List.getElem?_eq_getElem hlt⟩
   have hlm := f3 l (List.mem_of_getElem? hl)
   rw [drop_cons hl, za4] at i2
   repeat' (first | (apply z0a; (first | refine z0n ?_| (apply z06; (refine z02 z2e rfl rfl ?_)) | (apply z0e; (refine z02 (z11 (ys := A.map z5m) rfl (idx hl)) rfl rfl ?_)) | (apply z0x; (refine z02 (z1i rfl) rfl rfl ?_)))) | (apply z09; (first | refine z0m ?_ | apply z07)) | (apply z08; (first | apply z0b | apply z00 | apply z04 | apply z01 | refine z0h (fun _ => ?_) (fun _ => ?_)| refine z0l ?_)))
   all_goals try (exfalso; omega)
   refine z1f ?_
   refine z0f (z2f (fun q : Nat => ⟨99, [(1, .ptr (0, 1) 0), (3, I .i64 F.length), (25, .d (.slice (A.map z5m))), (26, I .i64 A.length), (27, I .i64 (i : Nat)), (5, .d (z8m l)), (31, .d (z8m l)), (32, I .i64 l.length), (33, I .i64 (q : Nat))], [(1, .box [.d (zkr F), .d (.slice (A.map z5m))])], H⟩) (fun q => q ≤ l.length ∧ zfa F.length (zhl l q) (l.drop q) = zfa F.length none l ∧ ∀ y, zhl l q = some y → 0 ≤ y.1 ∧ y.1 ≤ y.2.1 ∧ y.2.1 ≤ 1114111) (fun q => l.length - q) ?_ 0 ⟨Nat.zero_le _, rfl, by intro y hy; cases hy⟩) rfl rfl
   rintro k ⟨k1, k2, k3⟩ ihk
   by_cases hk : k < l.length
   · obtain ⟨x, hx⟩ : ∃ x, l[k]? = some x := ⟨_, List.getElem?_eq_getElem hk⟩
     have hpk : zhl l (k + 1) = some x := by rw [zhl, if_neg (by omega)]; exact hx
     rw [drop_cons hx, zar] at k2
     by_cases hb : zpk F.length x = true
     · rw [if_pos hb] at k2
       rw [← k2, if_pos (by decide)] at i2
       rw [← i2]
       simp only [zpk, Bool.or_eq_true, decide_eq_true_eq] at hb
       repeat' (first | (apply z0a; (first | refine z0n ?_| (apply z06; (first | refine z02 z1e rfl rfl ?_| refine z02 z1s rfl rfl ?_)) | (apply z0d; (refine z02 z0i rfl rfl ?_)) | (apply z0e; (refine z02 (z11 (ys := l.map z2r) rfl (idx hx)) rfl rfl ?_)) | (apply z0t; (refine z02 (z0r z1d) rfl rfl ?_)) | (apply z0c; (refine z1u ?_)) | (apply z0g; (refine z05 z29 ?_)))) | (apply z09; (first | refine z0m ?_ | apply z07)) | (apply z08; (first | apply z0b | apply z00 | refine z14 ?_| apply z04 | apply z01 | apply z3b | apply z03 | refine z0h (fun _ => ?_) (fun _ => ?_)| refine z0l ?_)) | (apply z3a; (first | (apply z1a; refine z1t mix ?_) | refine z2w ?_| refine z3c ?_| (apply z0v; (refine z0o z1e rfl rfl ?_)) | (apply z0u; (refine z0o z0i rfl rfl ?_)) | (apply z25; (refine z0o (z1w z1d) rfl rfl ?_)) | (refine z1n rfl rfl (fun hg => ?_) (fun hg => ?_) <;> simp only [hg] <;> (try simp only [decide_eq_true_eq, decide_eq_false_iff_not, Bool.not_eq_true', Bool.not_eq_false'] at hg)))))
       all_goals try (exfalso; omega)
       all_goals exact z0j Tryz.func16 _ z15 ⟨rfl, rfl⟩
     · rw [if_neg hb] at k2
       simp only [zpk, Bool.or_eq_true, decide_eq_true_eq, not_or] at hb
       cases k with
       | zero =>
        rw [show zhl l 0 = none from rfl] at k2
        simp only at k2
        have ihk' := ihk 1 ⟨by omega, by rw [hpk]; exact k2, fun y hy => by rw [hpk] at hy; cases hy; omega⟩ (by omega)
        repeat' (first | (apply z0a; (first | refine z0n ?_| (apply z06; (first | refine z02 z1e rfl rfl ?_| refine z02 z1s rfl rfl ?_)) | (apply z0d; (refine z02 z0i rfl rfl ?_)) | (apply z0e; (refine z02 (z11 (ys := l.map z2r) rfl (idx hx)) rfl rfl ?_)) | (apply z0t; (refine z02 (z0r z1d) rfl rfl ?_)) | (apply z0c; (refine z1u ?_)) | (apply z0g; (refine z05 z29 ?_)))) | (apply z09; (first | refine z0m ?_ | apply z07)) | (apply z08; (first | apply z0b | apply z00 | refine z14 ?_| apply z04 | apply z01 | apply z3b | apply z03 | refine z0h (fun _ => ?_) (fun _ => ?_)| refine z0l ?_)) | (apply z3a; (first | (apply z1a; refine z1t mix ?_) | refine z2w ?_| refine z3c ?_)))
        all_goals try (exfalso; omega)
        all_goals exact z0f ihk' rfl rfl
       | succ k =>
        obtain ⟨y, hy⟩ : ∃ y, l[k]? = some y := ⟨_, List.getElem?_eq_getElem (by omega)⟩
        have hpy : zhl l (k + 1) = some y := by rw [zhl, if_neg (by omega)]; exact hy
        have hyi : l[(((k + 1 : Nat) : Int) - 1).toNat]? = some y := by rw [show (((k + 1 : Nat) : Int) - 1).toNat = k by omega]; exact hy
        have hyr := k3 y hpy
        rw [hpy] at k2
        simp only at k2
        by_cases ho : zpg y x = true
        · rw [if_pos ho] at k2
          rw [← k2, if_pos (by decide)] at i2
          rw [← i2]
          simp only [zpg, Bool.or_eq_true, Bool.and_eq_true, decide_eq_true_eq] at ho
          repeat' (first | (apply z0a; (first | refine z0n ?_| (apply z06; (first | refine z02 z1e rfl rfl ?_| refine z02 z1s rfl rfl ?_)) | (apply z0d; (refine z02 z0i rfl rfl ?_)) | (apply z0e; (refine z02 (z11 (ys := l.map z2r) rfl (idx hx)) rfl rfl ?_)) | (apply z0t; (refine z02 (z0r z1d) rfl rfl ?_)) | (apply z0c; (refine z1u ?_)) | (apply z0g; (refine z05 z29 ?_)))) | (apply z09; (first | refine z0m ?_ | apply z07)) | (apply z08; (first | apply z0b | apply z00 | refine z14 ?_| apply z04 | apply z01 | apply z3b | apply z03 | refine z0h (fun _ => ?_) (fun _ => ?_)| refine z0l ?_)) | (apply z3a; (first | (apply z1a; refine z1t mix ?_) | refine z2w ?_| refine z3c ?_| (apply z0v; (first | refine z0o z1e rfl rfl ?_| refine z0o z2e rfl rfl ?_)) | (apply z0u; (first | refine z0o z0i rfl rfl ?_| refine z0o (z5j rfl rfl) rfl rfl ?_)) | (apply z19; (refine z0o (z11 (ys := l.map z2r) rfl (zdb hyi)) rfl rfl ?_)) | (apply z25; (first | refine z0o (z0r (z9a (by omega) (by omega))) rfl rfl ?_| refine z0o (z1w z1d) rfl rfl ?_)) | (refine z1n rfl rfl (fun hg => ?_) (fun hg => ?_) <;> simp only [hg] <;> (try simp only [decide_eq_true_eq, decide_eq_false_iff_not, Bool.not_eq_true', Bool.not_eq_false'] at hg)))))
          all_goals try (exfalso; omega)
          all_goals exact z0j Tryz.func16 _ z15 ⟨rfl, rfl⟩
        · rw [if_neg ho] at k2
          simp only [zpg, Bool.or_eq_true, Bool.and_eq_true, decide_eq_true_eq, not_or, not_and] at ho
          have ihk' := ihk (k + 2) ⟨by omega, by rw [hpk]; exact k2, fun y hy => by rw [hpk] at hy; cases hy; omega⟩ (by omega)
          repeat' (first | (apply z0a; (first | refine z0n ?_| (apply z06; (first | refine z02 z1e rfl rfl ?_| refine z02 z1s rfl rfl ?_)) | (apply z0d; (refine z02 z0i rfl rfl ?_)) | (apply z0e; (refine z02 (z11 (ys := l.map z2r) rfl (idx hx)) rfl rfl ?_)) | (apply z0t; (refine z02 (z0r z1d) rfl rfl ?_)) | (apply z0c; (refine z1u ?_)) | (apply z0g; (refine z05 z29 ?_)))) | (apply z09; (first | refine z0m ?_ | apply z07)) | (apply z08; (first | apply z0b | apply z00 | refine z14 ?_| apply z04 | apply z01 | apply z3b | apply z03 | refine z0h (fun _ => ?_) (fun _ => ?_)| refine z0l ?_)) | (apply z3a; (first | (apply z1a; refine z1t mix ?_) | refine z2w ?_| refine z3c ?_| (apply z0v; (first | refine z0o z1e rfl rfl ?_| refine z0o z2e rfl rfl ?_)) | (apply z0u; (first | refine z0o z0i rfl rfl ?_| refine z0o (z5j rfl rfl) rfl rfl ?_)) | (apply z19; (refine z0o (z11 (ys := l.map z2r) rfl (zdb hyi)) rfl rfl ?_)) | (apply z25; (first | refine z0o (z0r (z9a (by omega) (by omega))) rfl rfl ?_| refine z0o (z1w z1d) rfl rfl ?_)) | (refine z1n rfl rfl (fun hg => ?_) (fun hg => ?_) <;> simp only [hg] <;> (try simp only [decide_eq_true_eq, decide_eq_false_iff_not, Bool.not_eq_true', Bool.not_eq_false'] at hg)))))
          all_goals try (exfalso; omega)
          all_goals exact z0f ihk' rfl rfl
   · obtain rfl : k = l.length := by omega
     rw [List.drop_length, zfa] at k2
     rw [← k2, if_neg (by decide)] at i2
     repeat' (first | (apply z0a; (first | refine z0n ?_| (apply z0t; (refine z02 (z0r z1d) rfl rfl ?_)))) | (apply z09; (first | refine z0m ?_ | apply z07)) | (apply z08; (first | apply z0b | apply z00 | apply z04 | apply z01 | apply z03 | refine z0h (fun _ => ?_) (fun _ => ?_)| refine z0l ?_)))
     all_goals try (exfalso; omega)
     all_goals exact z0f (ih (i + 1) ⟨by omega, i2⟩ (by omega)) rfl rfl
 · obtain rfl : i = A.length := by omega
   rw [List.drop_length, za4] at i2
   rw [← i2]
   repeat' (first | (apply z0a; (refine z0n ?_)) | (apply z09; (first | refine z0m ?_ | apply z07)) | (apply z08; (first | apply z0b | apply z00 | apply z04 | apply z01 | refine z0h (fun _ => ?_) (fun _ => ?_)| refine z0l ?_)))
   all_goals try (exfalso; omega)
   all_goals exact z0j Tryz.func16 _ z15 ⟨rfl, rfl⟩
theorem zoj (a : Au) (hf : zg4 a) : z13 Tryz.prog 17 [.d (auD a)] (I .i64 (vAu a)) := by
 obtain ⟨F, A⟩ := a
 obtain ⟨f1, f2, f3⟩ := hf
 simp only at f1 f2 f3
 refine z1k fun H => ?_
 refine z0k Tryz.func17 (by kernel_rfl) rfl (by simp) ?_
 dsimp only [Tryz.f17]
 rw [vAu]
 simp only
 by_cases h1 : 256 < F.length
 · rw [if_pos h1]
   repeat' (first | (apply z0a; (first | refine z0n ?_| (apply z06; (refine z02 z1e rfl rfl ?_)) | (apply z0d; (refine z02 z0i rfl rfl ?_)) | (apply z0x; (refine z02 (z1i rfl) rfl rfl ?_)) | (apply z1q; (refine z05 z3z ?_)))) | (apply z09; (first | refine z0m ?_ | apply z07 | refine z1r ?_| refine z2k (fun _ => ?_) (fun _ => ?_))) | (apply z08; (first | apply z0b | apply z00 | refine z1g ?_| apply z04 | apply z01 | refine z0h (fun _ => ?_) (fun _ => ?_)| refine z50 rfl (fun _ => ?_) (fun _ => ?_))))
   all_goals try (exfalso; simp only [List.length_map] at *; omega)
   all_goals exact z0j Tryz.func17 _ z15 ⟨rfl, rfl⟩
 rw [if_neg h1]
 by_cases h2 : F.length = 0 ∨ A.length ≠ F.length
 · rw [if_pos h2]
   repeat' (first | (apply z0a; (first | refine z0n ?_| (apply z06; (refine z02 z1e rfl rfl ?_)) | (apply z0d; (refine z02 z0i rfl rfl ?_)) | (apply z0x; (refine z02 (z1i rfl) rfl rfl ?_)) | (apply z1q; (refine z05 z3z ?_)))) | (apply z09; (first | refine z0m ?_ | apply z07 | refine z1r ?_| refine z2k (fun _ => ?_) (fun _ => ?_))) | (apply z08; (first | apply z0b | apply z00 | refine z1g ?_| apply z04 | apply z01 | refine z0h (fun _ => ?_) (fun _ => ?_)| refine z50 rfl (fun _ => ?_) (fun _ => ?_))))
   all_goals try (exfalso; simp only [List.length_map] at *; omega)
   all_goals exact z0j Tryz.func17 _ z15 ⟨rfl, rfl⟩
 rw [if_neg h2]
 have e1 : A.length = F.length := by omega
 have e2 : 0 < F.length := by omega
 repeat' (first | (apply z0a; (first | refine z0n ?_| (apply z06; (refine z02 z1e rfl rfl ?_)) | (apply z0d; (refine z02 z0i rfl rfl ?_)) | (apply z0x; (refine z02 (z1i rfl) rfl rfl ?_)) | (apply z1q; (refine z05 z3z ?_)))) | (apply z09; (first | refine z0m ?_ | apply z07 | refine z1r ?_| refine z2k (fun _ => ?_) (fun _ => ?_))) | (apply z08; (first | apply z0b | apply z00 | refine z1g ?_| apply z04 | apply z01 | refine z0h (fun _ => ?_) (fun _ => ?_)| refine z50 rfl (fun _ => ?_) (fun _ => ?_))))
 all_goals try (exfalso; simp only [List.length_map] at *; omega)
 refine z1f ?_
 refine z0f (z2f (fun q : Nat => ⟨105, [(1, .ptr (0, 1) 0), (3, I .i64 F.length), (23, .d (.slice (A.map z5m))), (24, I .i64 A.length), (25, I .i64 (q : Nat))], [(1, .box [.d (zkr F), .d (.slice (A.map z5m))])], H⟩) (fun q => q ≤ A.length ∧ za4 F.length (A.drop q) = za4 F.length A) (fun q => A.length - q) ?_ 0 ⟨Nat.zero_le _, rfl⟩) rfl rfl
 rintro i ⟨i1, i2⟩ ih
 by_cases hlt : i < A.length
 · obtain ⟨l, hl⟩ : ∃ l, A[i]? = some l := ⟨_, List.getElem?_eq_getElem hlt⟩
   have hlm := f3 l (List.mem_of_getElem? hl)
   rw [drop_cons hl, za4] at i2
   repeat' (first | (apply z0a; (first | refine z0n ?_| (apply z06; (refine z02 z2e rfl rfl ?_)) | (apply z0e; (refine z02 (z11 (ys := A.map z5m) rfl (idx hl)) rfl rfl ?_)) | (apply z0x; (refine z02 (z1i rfl) rfl rfl ?_)))) | (apply z09; (first | refine z0m ?_ | apply z07)) | (apply z08; (first | apply z0b | apply z00 | apply z04 | apply z01 | refine z0h (fun _ => ?_) (fun _ => ?_)| refine z0l ?_)))
   all_goals try (exfalso; omega)
   refine z1f ?_
   refine z0f (z2f (fun q : Nat => ⟨105, [(1, .ptr (0, 1) 0), (3, I .i64 F.length), (23, .d (.slice (A.map z5m))), (24, I .i64 A.length), (25, I .i64 (i : Nat)), (5, .d (z8m l)), (29, .d (z8m l)), (30, I .i64 l.length), (31, I .i64 (q : Nat))], [(1, .box [.d (zkr F), .d (.slice (A.map z5m))])], H⟩) (fun q => q ≤ l.length ∧ zfa F.length (zhl l q) (l.drop q) = zfa F.length none l ∧ ∀ y, zhl l q = some y → 0 ≤ y.1 ∧ y.1 ≤ y.2.1 ∧ y.2.1 ≤ 1114111) (fun q => l.length - q) ?_ 0 ⟨Nat.zero_le _, rfl, by intro y hy; cases hy⟩) rfl rfl
   rintro k ⟨k1, k2, k3⟩ ihk
   by_cases hk : k < l.length
   · obtain ⟨x, hx⟩ : ∃ x, l[k]? = some x := ⟨_, List.getElem?_eq_getElem hk⟩
     have hpk : zhl l (k + 1) = some x := by rw [zhl, if_neg (by omega)]; exact hx
     rw [drop_cons hx, zar] at k2
     by_cases hb : zpk F.length x = true
     · rw [if_pos hb] at k2
       rw [← k2, if_pos (by decide)] at i2
       rw [← i2]
       simp only [zpk, Bool.or_eq_true, decide_eq_true_eq] at hb
       repeat' (first | (apply z0a; (first | refine z0n ?_| (apply z06; (first | refine z02 z1e rfl rfl ?_| refine z02 z1s rfl rfl ?_)) | (apply z0d; (refine z02 z0i rfl rfl ?_)) | (apply z0e; (refine z02 (z11 (ys := l.map z2r) rfl (idx hx)) rfl rfl ?_)) | (apply z0t; (refine z02 (z0r z1d) rfl rfl ?_)) | (apply z0c; (refine z1u ?_)) | (apply z0g; (refine z05 z29 ?_)))) | (apply z09; (first | refine z0m ?_ | apply z07 | refine z1r ?_| refine z2k (fun _ => ?_) (fun _ => ?_))) | (apply z08; (first | apply z0b | apply z00 | refine z1g ?_| refine z14 ?_| apply z04 | apply z01 | apply z3b | apply z03 | refine z0h (fun _ => ?_) (fun _ => ?_)| refine z0l ?_)) | (apply z3a; (first | (apply z1a; refine z1t mix ?_) | refine z2w ?_| refine z3c ?_| (apply z0v; (refine z0o z1e rfl rfl ?_)) | (apply z0u; (refine z0o z0i rfl rfl ?_)) | (apply z25; (refine z0o (z1w z1d) rfl rfl ?_)) | (refine z1n rfl rfl (fun hg => ?_) (fun hg => ?_) <;> simp only [hg] <;> (try simp only [decide_eq_true_eq, decide_eq_false_iff_not, Bool.not_eq_true', Bool.not_eq_false'] at hg)))))
       all_goals try (exfalso; omega)
       all_goals exact z0j Tryz.func17 _ z15 ⟨rfl, rfl⟩
     · rw [if_neg hb] at k2
       simp only [zpk, Bool.or_eq_true, decide_eq_true_eq, not_or] at hb
       cases k with
       | zero =>
        rw [show zhl l 0 = none from rfl] at k2
        simp only at k2
        have ihk' := ihk 1 ⟨by omega, by rw [hpk]; exact k2, fun y hy => by rw [hpk] at hy; cases hy; omega⟩ (by omega)
        repeat' (first | (apply z0a; (first | refine z0n ?_| (apply z06; (first | refine z02 z1e rfl rfl ?_| refine z02 z1s rfl rfl ?_)) | (apply z0d; (refine z02 z0i rfl rfl ?_)) | (apply z0e; (refine z02 (z11 (ys := l.map z2r) rfl (idx hx)) rfl rfl ?_)) | (apply z0t; (refine z02 (z0r z1d) rfl rfl ?_)) | (apply z0c; (refine z1u ?_)) | (apply z0g; (refine z05 z29 ?_)))) | (apply z09; (first | refine z0m ?_ | apply z07 | refine z1r ?_| refine z2k (fun _ => ?_) (fun _ => ?_))) | (apply z08; (first | apply z0b | apply z00 | refine z1g ?_| refine z14 ?_| apply z04 | apply z01 | apply z3b | apply z03 | refine z0h (fun _ => ?_) (fun _ => ?_)| refine z0l ?_)) | (apply z3a; (first | (apply z1a; refine z1t mix ?_) | refine z2w ?_| refine z3c ?_)))
        all_goals try (exfalso; omega)
        all_goals exact z0f ihk' rfl rfl
       | succ k =>
        obtain ⟨y, hy⟩ : ∃ y, l[k]? = some y := ⟨_, List.getElem?_eq_getElem (by omega)⟩
        have hpy : zhl l (k + 1) = some y := by rw [zhl, if_neg (by omega)]; exact hy
        have hyi : l[(((k + 1 : Nat) : Int) - 1).toNat]? = some y := by rw [show (((k + 1 : Nat) : Int) - 1).toNat = k by omega]; exact hy
        have hyr := k3 y hpy
        rw [hpy] at k2
        simp only at k2
        by_cases ho : zpg y x = true
        · rw [if_pos ho] at k2
          rw [← k2, if_pos (by decide)] at i2
          rw [← i2]
          simp only [zpg, Bool.or_eq_true, Bool.and_eq_true, decide_eq_true_eq] at ho
          repeat' (first | (apply z0a; (first | refine z0n ?_| (apply z06; (first | refine z02 z1e rfl rfl ?_| refine z02 z1s rfl rfl ?_)) | (apply z0d; (refine z02 z0i rfl rfl ?_)) | (apply z0e; (refine z02 (z11 (ys := l.map z2r) rfl (idx hx)) rfl rfl ?_)) | (apply z0t; (refine z02 (z0r z1d) rfl rfl ?_)) | (apply z0c; (refine z1u ?_)) | (apply z0g; (refine z05 z29 ?_)))) | (apply z09; (first | refine z0m ?_ | apply z07 | refine z1r ?_| refine z2k (fun _ => ?_) (fun _ => ?_))) | (apply z08; (first | apply z0b | apply z00 | refine z1g ?_| refine z14 ?_| apply z04 | apply z01 | apply z3b | apply z03 | refine z0h (fun _ => ?_) (fun _ => ?_)| refine z0l ?_)) | (apply z3a; (first | (apply z1a; refine z1t mix ?_) | refine z2w ?_| refine z3c ?_| (apply z0v; (first | refine z0o z1e rfl rfl ?_| refine z0o z2e rfl rfl ?_)) | (apply z0u; (first | refine z0o z0i rfl rfl ?_| refine z0o (z5j rfl rfl) rfl rfl ?_)) | (apply z19; (refine z0o (z11 (ys := l.map z2r) rfl (zdb hyi)) rfl rfl ?_)) | (apply z25; (first | refine z0o (z0r (z9a (by omega) (by omega))) rfl rfl ?_| refine z0o (z1w z1d) rfl rfl ?_)) | (refine z1n rfl rfl (fun hg => ?_) (fun hg => ?_) <;> simp only [hg] <;> (try simp only [decide_eq_true_eq, decide_eq_false_iff_not, Bool.not_eq_true', Bool.not_eq_false'] at hg)))))
          all_goals try (exfalso; omega)
          all_goals exact z0j Tryz.func17 _ z15 ⟨rfl, rfl⟩
        · rw [if_neg ho] at k2
          simp only [zpg, Bool.or_eq_true, Bool.and_eq_true, decide_eq_true_eq, not_or, not_and] at ho
          have ihk' := ihk (k + 2) ⟨by omega, by rw [hpk]; exact k2, fun y hy => by rw [hpk] at hy; cases hy; omega⟩ (by omega)
          repeat' (first | (apply z0a; (first | refine z0n ?_| (apply z06; (first | refine z02 z1e rfl rfl ?_| refine z02 z1s rfl rfl ?_)) | (apply z0d; (refine z02 z0i rfl rfl ?_)) | (apply z0e; (refine z02 (z11 (ys := l.map z2r) rfl (idx hx)) rfl rfl ?_)) | (apply z0t; (refine z02 (z0r z1d) rfl rfl ?_)) | (apply z0c; (refine z1u ?_)) | (apply z0g; (refine z05 z29 ?_)))) | (apply z09; (first | refine z0m ?_ | apply z07 | refine z1r ?_| refine z2k (fun _ => ?_) (fun _ => ?_))) | (apply z08; (first | apply z0b | apply z00 | refine z1g ?_| refine z14 ?_| apply z04 | apply z01 | apply z3b | apply z03 | refine z0h (fun _ => ?_) (fun _ => ?_)| refine z0l ?_)) | (apply z3a; (first | (apply z1a; refine z1t mix ?_) | refine z2w ?_| refine z3c ?_| (apply z0v; (first | refine z0o z1e rfl rfl ?_| refine z0o z2e rfl rfl ?_)) | (apply z0u; (first | refine z0o z0i rfl rfl ?_| refine z0o (z5j rfl rfl) rfl rfl ?_)) | (apply z19; (refine z0o (z11 (ys := l.map z2r) rfl (zdb hyi)) rfl rfl ?_)) | (apply z25; (first | refine z0o (z0r (z9a (by omega) (by omega))) rfl rfl ?_| refine z0o (z1w z1d) rfl rfl ?_)) | (refine z1n rfl rfl (fun hg => ?_) (fun hg => ?_) <;> simp only [hg] <;> (try simp only [decide_eq_true_eq, decide_eq_false_iff_not, Bool.not_eq_true', Bool.not_eq_false'] at hg)))))
          all_goals try (exfalso; omega)
          all_goals exact z0f ihk' rfl rfl
   · obtain rfl : k = l.length := by omega
     rw [List.drop_length, zfa] at k2
     rw [← k2, if_neg (by decide)] at i2
     repeat' (first | (apply z0a; (first | refine z0n ?_| (apply z0t; (refine z02 (z0r z1d) rfl rfl ?_)))) | (apply z09; (first | refine z0m ?_ | apply z07)) | (apply z08; (first | apply z0b | apply z00 | apply z04 | apply z01 | apply z03 | refine z0h (fun _ => ?_) (fun _ => ?_)| refine z0l ?_)))
     all_goals try (exfalso; omega)
     all_goals exact z0f (ih (i + 1) ⟨by omega, i2⟩ (by omega)) rfl rfl
 · obtain rfl : i = A.length := by omega
   rw [List.drop_length, za4] at i2
   rw [← i2]
   repeat' (first | (apply z0a; (refine z0n ?_)) | (apply z09; (first | refine z0m ?_ | apply z07)) | (apply z08; (first | apply z0b | apply z00 | apply z04 | apply z01 | refine z0h (fun _ => ?_) (fun _ => ?_)| refine z0l ?_)))
   all_goals try (exfalso; omega)
   all_goals exact z0j Tryz.func17 _ z15 ⟨rfl, rfl⟩
end Go.Proofs.YthdfkabdoidjfaaGreatDoor
namespace Go.Proofs.YthdfkabdoidjfaaGreatDoor
open Go.Ab Go.Ax
set_option maxHeartbeats 20000000
set_option maxRecDepth 100000
attribute [local irreducible] Run Ops Op1 z23 Val Tr z13 z22 NF Rel z4e z4d
def zul (a b : Int) : Int := if a < b then -1 else if b < a then 1 else 0
theorem zdr (a : Int) : z13 Tryz.prog 112 [I .i32 a] (B false) := by
 refine z1k fun H => ?_
 refine z0k Tryz.func112 (by kernel_rfl) rfl (by simp) ?_
 dsimp only [Tryz.f112]
 repeat' (first | (apply z0a; (refine z0n ?_)) | (apply z09; (first | refine z0m ?_ | apply z07)) | (apply z08; (first | apply z0b | apply z00)))
 all_goals try (exfalso; omega)
 all_goals exact z0j Tryz.func112 _ (zm3 rfl (by simp only [ne_eq, not_true_eq_false, decide_false]; rfl)) ⟨rfl, rfl⟩
theorem zm1 (a b : Int) : z13 Tryz.prog 76 [I .i32 a, I .i32 b] (I .i64 (zul a b)) := by
 refine z1k fun H => ?_
 have h1 := zdr a
 have h2 := zdr b
 refine z0k Tryz.func76 (by kernel_rfl) rfl (by simp) ?_
 dsimp only [Tryz.f76]
 rw [zul]
 by_cases c1 : a < b
 · rw [if_pos c1]
   repeat' (first | (apply z0a; (first | refine z0n ?_| (apply z0q; (first | refine z1j h1 ?_| refine z1j h2 ?_)))) | (apply z09; (first | refine z0m ?_ | apply z07)) | (apply z08; (first | apply z0b | apply z00 | refine z14 ?_| apply z04 | refine z0h (fun _ => ?_) (fun _ => ?_))))
   all_goals try (exfalso; omega)
   all_goals exact z0j Tryz.func76 _ z15 ⟨rfl, rfl⟩
 · rw [if_neg c1]
   by_cases c2 : b < a
   · rw [if_pos c2]
     repeat' (first | (apply z0a; (first | refine z0n ?_| (apply z0q; (first | refine z1j h1 ?_| refine z1j h2 ?_)))) | (apply z09; (first | refine z0m ?_ | apply z07)) | (apply z08; (first | apply z0b | apply z00 | refine z14 ?_| apply z04 | refine z0h (fun _ => ?_) (fun _ => ?_))))
     all_goals try (exfalso; omega)
     all_goals exact z0j Tryz.func76 _ z15 ⟨rfl, rfl⟩
   · rw [if_neg c2]
     repeat' (first | (apply z0a; (first | refine z0n ?_| (apply z0q; (first | refine z1j h1 ?_| refine z1j h2 ?_)))) | (apply z09; (first | refine z0m ?_ | apply z07)) | (apply z08; (first | apply z0b | apply z00 | refine z14 ?_| apply z04 | refine z0h (fun _ => ?_) (fun _ => ?_))))
     all_goals try (exfalso; omega)
     all_goals exact z0j Tryz.func76 _ z15 ⟨rfl, rfl⟩
theorem zmd (x : Arc) (c : Int) : z13 Tryz.prog 75 [.d (.agg (z2r x)), I .i32 c] (I .i64 (zul x.2.1 c)) := by
 refine z1k fun H => ?_
 have h1 := zm1 x.2.1 c
 refine z0k Tryz.func75 (by kernel_rfl) rfl (by simp) ?_
 dsimp only [Tryz.f75]
 repeat' (first | (apply z0a; (first | refine z0n ?_| (apply z06; (refine z02 z1e rfl rfl ?_)) | (apply z0d; (refine z02 z0i rfl rfl ?_)) | (apply z0q; (refine z1j h1 ?_)) | (apply z1q; (refine z05 z3z ?_)))) | (apply z09; (first | refine z0m ?_ | apply z07)) | (apply z08; (first | apply z0b | apply z00)))
 all_goals try (exfalso; omega)
 all_goals exact z0j Tryz.func75 _ z15 ⟨rfl, rfl⟩
theorem zkp (l : List Arc) (hl : l.length ≤ 4611686018427387904) (ho : okA none l) (c : Int) : z13 Tryz.prog 74 [.d (z8m l), I .i32 c, .fn (.func 75) [] []] (.tup [I .i64 (zds c l : Nat), B (match l[zds c l]? with | some x => decide (x.2.1 = c) | none => false)]) := by
 refine z1k fun H => ?_
 have hmono := zgu ho
 refine z0k Tryz.func74 (by kernel_rfl) rfl (by simp) ?_
 dsimp only [Tryz.f74]
 repeat' (first | (apply z0a; (first | refine z0n ?_| (apply z0x; (refine z02 (z1i rfl) rfl rfl ?_)))) | (apply z09; (first | refine z0m ?_ | apply z07)) | (apply z08; (first | apply z0b | apply z00 | apply z01)))
 all_goals try (exfalso; omega)
 refine z1f ?_
 refine z0f (z2f (fun q : Nat × Nat => ⟨49, [(0, .d (z8m l)), (1, I .i32 c), (2, .fn (.func 75) [] []), (8, I .i64 l.length), (9, I .i64 (q.1 : Nat)), (10, I .i64 (q.2 : Nat))], [], H⟩) (fun q => q.1 ≤ q.2 ∧ q.2 ≤ l.length ∧ (∀ p x, p < q.1 → l[p]? = some x → x.2.1 < c) ∧ ∀ p x, q.2 ≤ p → l[p]? = some x → ¬ x.2.1 < c) (fun q => q.2 - q.1) ?_ (0, l.length) ⟨Nat.zero_le _, Nat.le_refl _, fun p x h => absurd h (Nat.not_lt_zero _), fun p x h1 h2 => by have := (List.getElem?_eq_some_iff.1 h2).1; omega⟩) rfl rfl
 rintro ⟨i, j⟩ ⟨i1, i2, i3, i4⟩ ih
 simp only at i1 i2 i3 i4 ih ⊢
 by_cases hlt : i < j
 · have hh : ((((i : Nat) : Int) + ((j : Nat) : Int)) / 2) = (((i + j) / 2 : Nat) : Int) := by omega
   obtain ⟨x, hx⟩ : ∃ x, l[(i + j) / 2]? = some x := ⟨_, List.getElem?_eq_getElem (by omega)⟩
   have hxi : l[((((i : Nat) : Int) + ((j : Nat) : Int)) / 2).toNat]? = some x := by rw [hh, Int.toNat_natCast]; exact hx
   have hc := zmd x c
   rw [zul] at hc
   by_cases hlo : x.2.1 < c
   · rw [if_pos hlo] at hc
     have ih' := ih ((i + j) / 2 + 1, j) ⟨by simp only; omega, i2, fun p y hp hy => by have := hmono p _ y x (by simp only at hp; omega) hy hx; omega, i4⟩ (by simp only; omega)
     rw [show (((i + j) / 2 + 1 : Nat) : Int) = (((i : Nat) : Int) + ((j : Nat) : Int)) / 2 + 1 by omega] at ih'
     repeat' (first | (apply z0a; (first | refine z0n ?_| (apply z06; (refine z02 z1s rfl rfl ?_)) | (apply z0e; (refine z02 (z11 (ys := l.map z2r) rfl (zdb hxi)) rfl rfl ?_)) | (apply z0t; (first | refine z02 (zew (by omega)) rfl rfl ?_| refine z02 (z0r z1d) rfl rfl ?_)) | (apply z0q; (refine z9s (first := []) (cap := []) (ps := [.d (.agg (z2r x)), I .i32 c]) hc rfl rfl (by decide) ?_)) | (apply z8j; (first | refine z02 (z5u rfl rfl (zop (by omega) (by omega))) rfl rfl ?_| refine z02 (z5u rfl rfl z1d) rfl rfl ?_)))) | (apply z09; (first | refine z0m ?_ | apply z07 | refine z1r ?_| refine z2k (fun _ => ?_) (fun _ => ?_))) | (apply z08; (first | apply z0b | apply z00 | refine z1g ?_| apply z04 | apply z01 | apply z03 | refine z0h (fun _ => ?_) (fun _ => ?_)| refine z0l ?_)))
     all_goals try (exfalso; omega)
     all_goals exact z0f ih' rfl rfl
   · have ih' := ih (i, (i + j) / 2) ⟨by simp only; omega, by simp only; omega, i3, fun p y hp hy => by have := hmono _ p x y hp hx hy; omega⟩ (by simp only; omega)
     rw [hh.symm] at ih'
     rw [if_neg hlo] at hc
     have hc0 : 0 ≤ (if c < x.2.1 then (1 : Int) else 0) := by split <;> omega
     generalize (if c < x.2.1 then (1 : Int) else 0) = cc at *
     repeat' (first | (apply z0a; (first | refine z0n ?_| (apply z06; (refine z02 z1s rfl rfl ?_)) | (apply z0e; (refine z02 (z11 (ys := l.map z2r) rfl (zdb hxi)) rfl rfl ?_)) | (apply z0t; (first | refine z02 (zew (by omega)) rfl rfl ?_| refine z02 (z0r z1d) rfl rfl ?_)) | (apply z0q; (refine z9s (first := []) (cap := []) (ps := [.d (.agg (z2r x)), I .i32 c]) hc rfl rfl (by decide) ?_)) | (apply z8j; (first | refine z02 (z5u rfl rfl (zop (by omega) (by omega))) rfl rfl ?_| refine z02 (z5u rfl rfl z1d) rfl rfl ?_)))) | (apply z09; (first | refine z0m ?_ | apply z07 | refine z1r ?_| refine z2k (fun _ => ?_) (fun _ => ?_))) | (apply z08; (first | apply z0b | apply z00 | apply z04 | apply z01 | apply z03 | refine z0h (fun _ => ?_) (fun _ => ?_)| refine z0l ?_)))
     all_goals try (exfalso; omega)
     all_goals exact z0f ih' rfl rfl
 · obtain rfl : i = j := by omega
   have hcut := zu9 (c := c) i2 i3 (fun x hx => i4 i x (Nat.le_refl _) hx)
   rw [← hcut]
   clear ih
   by_cases hin : i < l.length
   · obtain ⟨x, hx⟩ : ∃ x, l[i]? = some x := ⟨_, List.getElem?_eq_getElem hin⟩
     have hnl := i4 i x (Nat.le_refl _) hx
     have hc := zmd x c
     rw [zul, if_neg hnl] at hc
     rw [hx]
     simp only
     by_cases he : c < x.2.1
     · rw [if_pos he] at hc
       rw [show decide (x.2.1 = c) = false by simp; omega]
       repeat' (first | (apply z0a; (first | refine z0n ?_| (apply z06; (refine z02 z1s rfl rfl ?_)) | (apply z0e; (refine z02 (z11 (ys := l.map z2r) rfl (idx hx)) rfl rfl ?_)) | (apply z0t; (first | refine z02 (z0r z1d) rfl rfl ?_| refine z02 (zew (by omega)) rfl rfl ?_)) | (apply z0q; (refine z9s (first := []) (cap := []) (ps := [.d (.agg (z2r x)), I .i32 c]) hc rfl rfl (by decide) ?_)) | (apply z8j; (first | refine z02 (z5u rfl rfl (zop (by omega) (by omega))) rfl rfl ?_| refine z02 (z5u rfl rfl z1d) rfl rfl ?_)))) | (apply z09; (first | refine z0m ?_ | apply z07 | refine z1r ?_| refine z2k (fun _ => ?_) (fun _ => ?_))) | (apply z08; (first | apply z0b | apply z00 | apply z04 | apply z01 | refine z0h (fun _ => ?_) (fun _ => ?_)| refine z0l ?_)))
       all_goals try (exfalso; omega)
       all_goals exact z0j Tryz.func74 _ (z4a rfl rfl rfl) ⟨rfl, rfl⟩
     · rw [if_neg he] at hc
       rw [show decide (x.2.1 = c) = true by simp; omega]
       repeat' (first | (apply z0a; (first | refine z0n ?_| (apply z06; (refine z02 z1s rfl rfl ?_)) | (apply z0e; (refine z02 (z11 (ys := l.map z2r) rfl (idx hx)) rfl rfl ?_)) | (apply z0t; (first | refine z02 (z0r z1d) rfl rfl ?_| refine z02 (zew (by omega)) rfl rfl ?_)) | (apply z0q; (refine z9s (first := []) (cap := []) (ps := [.d (.agg (z2r x)), I .i32 c]) hc rfl rfl (by decide) ?_)) | (apply z8j; (first | refine z02 (z5u rfl rfl (zop (by omega) (by omega))) rfl rfl ?_| refine z02 (z5u rfl rfl z1d) rfl rfl ?_)))) | (apply z09; (first | refine z0m ?_ | apply z07 | refine z1r ?_| refine z2k (fun _ => ?_) (fun _ => ?_))) | (apply z08; (first | apply z0b | apply z00 | apply z04 | apply z01 | refine z0h (fun _ => ?_) (fun _ => ?_)| refine z0l ?_)))
       all_goals try (exfalso; omega)
       all_goals exact z0j Tryz.func74 _ (z4a rfl rfl rfl) ⟨rfl, rfl⟩
   · rw [List.getElem?_eq_none (by omega)]
     repeat' (first | (apply z0a; (first | refine z0n ?_| (apply z0t; (first | refine z02 (z0r z1d) rfl rfl ?_| refine z02 (zew (by omega)) rfl rfl ?_)) | (apply z8j; (first | refine z02 (z5u rfl rfl (zop (by omega) (by omega))) rfl rfl ?_| refine z02 (z5u rfl rfl z1d) rfl rfl ?_)))) | (apply z09; (first | refine z0m ?_ | apply z07 | refine z1r ?_| refine z2k (fun _ => ?_) (fun _ => ?_))) | (apply z08; (first | apply z0b | apply z00 | apply z04 | apply z01 | refine z0h (fun _ => ?_) (fun _ => ?_)| refine z0l ?_)))
     all_goals try (exfalso; omega)
     all_goals exact z0j Tryz.func74 _ (z4a rfl rfl rfl) ⟨rfl, rfl⟩
/-- the program's step -/
theorem zkt (l : List Arc) (hl : l.length ≤ 4611686018427387904) (ho : okA none l) (c : Int) : z13 Tryz.prog 41 [.d (z8m l), I .i32 c] (I .i64 (nxt l c)) := by
 refine z1k fun H => ?_
 have hb := zkp l hl ho c
 have hcl := zlr c l
 rw [zl0 ho]
 refine z0k Tryz.func41 (by kernel_rfl) rfl (by simp) ?_
 dsimp only [Tryz.f41]
 by_cases hin : zds c l < l.length
 · obtain ⟨x, hx⟩ : ∃ x, l[zds c l]? = some x := ⟨_, List.getElem?_eq_getElem hin⟩
   rw [hx] at hb ⊢
   simp only at hb ⊢
   generalize zds c l = i at *
   by_cases hc : c < x.1
   · rw [if_pos hc]
     repeat' (first | (apply z0a; (first | refine z0n ?_| (apply z06; (refine z02 z2e rfl rfl ?_)) | (apply z0d; (refine z02 (z5j rfl rfl) rfl rfl ?_)) | (apply z0e; (refine z02 (z11 (ys := l.map z2r) rfl (idx hx)) rfl rfl ?_)) | (apply z0x; (refine z02 (z1i rfl) rfl rfl ?_)) | (apply z0q; (refine z9s (first := []) (cap := []) (ps := [.d (z8m l), I .i32 c, .fn (.func 75) [] []]) hb rfl rfl (by decide) ?_)))) | (apply z09; (first | refine z0m ?_ | apply z07 | refine z1r ?_| refine z2k (fun _ => ?_) (fun _ => ?_))) | (apply z08; (first | apply z0b | apply z00 | refine z1g ?_| apply z04 | refine z0h (fun _ => ?_) (fun _ => ?_))))
     all_goals try (exfalso; omega)
     all_goals exact z0j Tryz.func41 _ z15 ⟨rfl, rfl⟩
   · rw [if_neg hc]
     repeat' (first | (apply z0a; (first | refine z0n ?_| (apply z06; (refine z02 z2e rfl rfl ?_)) | (apply z0d; (refine z02 (z5j rfl rfl) rfl rfl ?_)) | (apply z0e; (refine z02 (z11 (ys := l.map z2r) rfl (idx hx)) rfl rfl ?_)) | (apply z0x; (refine z02 (z1i rfl) rfl rfl ?_)) | (apply z0q; (refine z9s (first := []) (cap := []) (ps := [.d (z8m l), I .i32 c, .fn (.func 75) [] []]) hb rfl rfl (by decide) ?_)))) | (apply z09; (first | refine z0m ?_ | apply z07 | refine z1r ?_| refine z2k (fun _ => ?_) (fun _ => ?_))) | (apply z08; (first | apply z0b | apply z00 | refine z1g ?_| apply z04 | refine z0h (fun _ => ?_) (fun _ => ?_))))
     all_goals try (exfalso; omega)
     all_goals exact z0j Tryz.func41 _ z15 ⟨rfl, rfl⟩
 · rw [List.getElem?_eq_none (by omega)] at hb ⊢
   simp only at hb ⊢
   have : zds c l = l.length := by omega
   rw [this] at hb
   repeat' (first | (apply z0a; (first | refine z0n ?_| (apply z0x; (refine z02 (z1i rfl) rfl rfl ?_)) | (apply z0q; (refine z9s (first := []) (cap := []) (ps := [.d (z8m l), I .i32 c, .fn (.func 75) [] []]) hb rfl rfl (by decide) ?_)))) | (apply z09; (first | refine z0m ?_ | apply z07 | refine z1r ?_| refine z2k (fun _ => ?_) (fun _ => ?_))) | (apply z08; (first | apply z0b | apply z00 | refine z1g ?_)))
   all_goals try (exfalso; omega)
   all_goals exact z0j Tryz.func41 _ z15 ⟨rfl, rfl⟩
end Go.Proofs.YthdfkabdoidjfaaGreatDoor
namespace Go.Proofs.YthdfkabdoidjfaaGreatDoor
open Go.Ab Go.Ax
set_option maxHeartbeats 20000000
set_option maxRecDepth 100000
attribute [local irreducible] Run Ops Op1 z23 Val Tr z13 z22 NF Rel z4e z4d
theorem zs3 (a : Au) (q : Nat) (hq : q < a.A.length) (hl : ∀ l ∈ a.A, l.length ≤ 4611686018427387904) (c : Int) : z13 Tryz.prog 43 [.d (auD a), I .i64 (q : Nat), I .i32 c] (I .i64 (a.nx q c)) := by
 obtain ⟨F, A⟩ := a
 simp only at hq hl
 obtain ⟨l, hA⟩ : ∃ l, A[q]? = some l := ⟨_, List.getElem?_eq_getElem hq⟩
 have hll := hl l (List.mem_of_getElem? hA)
 have hnx : (⟨F, A⟩ : Au).nx (q : Nat) c = nxt l c := by rw [Au.nx, Au.arcs, if_neg (by omega), Int.toNat_natCast, List.getD, hA]; rfl
 rw [hnx]
 refine z1k fun H => ?_
 refine z0k Tryz.func43 (by kernel_rfl) rfl (by simp) ?_
 dsimp only [Tryz.f43]
 repeat' (first | (apply z0a; (first | refine z0n ?_| (apply z06; (first | refine z02 z1e rfl rfl ?_| refine z02 z2e rfl rfl ?_)) | (apply z0d; (refine z02 z0i rfl rfl ?_)) | (apply z0e; (refine z02 (z11 (ys := A.map z5m) rfl (idx hA)) rfl rfl ?_)) | (apply z0x; (refine z02 (z1i rfl) rfl rfl ?_)) | (apply z1q; (refine z05 z3z ?_)))) | (apply z09; (first | refine z0m ?_ | apply z07)) | (apply z08; (first | apply z0b | apply z00 | refine z14 ?_| apply z04 | apply z01)))
 all_goals try (exfalso; omega)
 refine z1f ?_
 refine z0f (z2f (fun k : Nat => ⟨34, [(2, I .i32 c), (15, .d (z8m l)), (16, I .i64 l.length), (17, I .i64 (k : Nat))], [], H⟩) (fun k => k ≤ l.length ∧ nxt (l.drop k) c = nxt l c) (fun k => l.length - k) ?_ 0 ⟨Nat.zero_le _, rfl⟩) rfl rfl
 rintro k ⟨k1, k2⟩ ih
 by_cases hlt : k < l.length
 · obtain ⟨x, hx⟩ : ∃ x, l[k]? = some x := ⟨_, List.getElem?_eq_getElem hlt⟩
   rw [drop_cons hx, nxt] at k2
   by_cases hc : x.1 ≤ c ∧ c ≤ x.2.1
   · rw [if_pos hc] at k2
     rw [← k2]
     repeat' (first | (apply z0a; (first | refine z0n ?_| (apply z06; (first | refine z02 z1e rfl rfl ?_| refine z02 z1s rfl rfl ?_)) | (apply z0d; (refine z02 z0i rfl rfl ?_)) | (apply z0e; (refine z02 (z11 (ys := l.map z2r) rfl (idx hx)) rfl rfl ?_)) | (apply z0t; (refine z02 (z0r z1d) rfl rfl ?_)) | (apply z0c; (refine z1u ?_)) | (apply z0g; (refine z05 z29 ?_)))) | (apply z09; (first | refine z0m ?_ | apply z07 | refine z1r ?_| refine z2k (fun _ => ?_) (fun _ => ?_))) | (apply z08; (first | apply z0b | apply z00 | refine z14 ?_| apply z04 | apply z01 | apply z03 | refine z0h (fun _ => ?_) (fun _ => ?_)| refine z0l ?_)))
     all_goals try (exfalso; omega)
     all_goals exact z0j Tryz.func43 _ z15 ⟨rfl, rfl⟩
   · rw [if_neg hc] at k2
     have ih' := ih (k + 1) ⟨by omega, k2⟩ (by omega)
     repeat' (first | (apply z0a; (first | refine z0n ?_| (apply z06; (first | refine z02 z1e rfl rfl ?_| refine z02 z1s rfl rfl ?_)) | (apply z0d; (refine z02 z0i rfl rfl ?_)) | (apply z0e; (refine z02 (z11 (ys := l.map z2r) rfl (idx hx)) rfl rfl ?_)) | (apply z0t; (refine z02 (z0r z1d) rfl rfl ?_)) | (apply z0c; (refine z1u ?_)) | (apply z0g; (refine z05 z29 ?_)))) | (apply z09; (first | refine z0m ?_ | apply z07 | refine z1r ?_| refine z2k (fun _ => ?_) (fun _ => ?_))) | (apply z08; (first | apply z0b | apply z00 | refine z14 ?_| apply z04 | apply z01 | apply z03 | refine z0h (fun _ => ?_) (fun _ => ?_)| refine z0l ?_)))
     all_goals try (exfalso; omega)
     all_goals exact z0f ih' rfl rfl
 · obtain rfl : k = l.length := by omega
   rw [List.drop_length, nxt] at k2
   rw [← k2]
   repeat' (first | (apply z0a; (refine z0n ?_)) | (apply z09; (first | refine z0m ?_ | apply z07)) | (apply z08; (first | apply z0b | apply z00 | apply z04 | apply z01 | refine z0h (fun _ => ?_) (fun _ => ?_)| refine z0l ?_)))
   all_goals try (exfalso; omega)
   all_goals exact z0j Tryz.func43 _ z15 ⟨rfl, rfl⟩
theorem zl9 (a : Au) (q : Int) (hq : q < 0) (c : Int) : z13 Tryz.prog 43 [.d (auD a), I .i64 q, I .i32 c] (I .i64 (-1)) := by
 obtain ⟨F, A⟩ := a
 refine z1k fun H => ?_
 refine z0k Tryz.func43 (by kernel_rfl) rfl (by simp) ?_
 dsimp only [Tryz.f43]
 repeat' (first | (apply z0a; (first | refine z0n ?_| (apply z06; (refine z02 z1e rfl rfl ?_)) | (apply z0d; (refine z02 z0i rfl rfl ?_)) | (apply z1q; (refine z05 z3z ?_)))) | (apply z09; (first | refine z0m ?_ | apply z07)) | (apply z08; (first | apply z0b | apply z00 | apply z04 | refine z0h (fun _ => ?_) (fun _ => ?_))))
 all_goals try (exfalso; omega)
 all_goals exact z0j Tryz.func43 _ z15 ⟨rfl, rfl⟩
end Go.Proofs.YthdfkabdoidjfaaGreatDoor
namespace Go.Proofs.YthdfkabdoidjfaaGreatDoor
open Go.Ab Go.Ax
set_option maxHeartbeats 20000000
set_option maxRecDepth 100000
attribute [local irreducible] Run Ops Op1 z23 Val Tr z13 z22 NF Rel z4e z4d
def zmc (op : Int) (p q : Bool) : Bool := if op = 1 then p && q else if op = 2 then p || q else if op = 3 then p && !q else p != q
theorem zl7 (op : Int) (p q : Bool) : z13 Tryz.prog 95 [I .i64 op, B p, B q] (B (zmc op p q)) := by
 refine z1k fun H => ?_
 refine z0k Tryz.func95 (by kernel_rfl) rfl (by simp) ?_
 dsimp only [Tryz.f95]
 rw [zmc]
 by_cases h1 : op = 1
 · rw [if_pos h1]
   cases p <;> cases q
   all_goals repeat' (first | (apply z0a; (first | refine z0n ?_| (apply z0t; (refine z02 (zh5 rfl) rfl rfl ?_)))) | (apply z09; (first | refine z0m ?_ | apply z07 | refine z1r ?_)) | (apply z08; (first | apply z0b | apply z00 | apply z04 | apply z01 | apply z03 | refine z0h (fun _ => ?_) (fun _ => ?_))))
   all_goals try (exfalso; omega)
   all_goals exact z0j Tryz.func95 _ z15 ⟨rfl, rfl⟩
 rw [if_neg h1]
 by_cases h2 : op = 2
 · rw [if_pos h2]
   cases p <;> cases q
   all_goals repeat' (first | (apply z0a; (first | refine z0n ?_| (apply z0t; (refine z02 (zh5 rfl) rfl rfl ?_)))) | (apply z09; (first | refine z0m ?_ | apply z07 | refine z1r ?_)) | (apply z08; (first | apply z0b | apply z00 | apply z04 | apply z01 | apply z03 | refine z0h (fun _ => ?_) (fun _ => ?_))))
   all_goals try (exfalso; omega)
   all_goals exact z0j Tryz.func95 _ z15 ⟨rfl, rfl⟩
 rw [if_neg h2]
 by_cases h3 : op = 3
 · rw [if_pos h3]
   cases p <;> cases q
   all_goals repeat' (first | (apply z0a; (first | refine z0n ?_| (apply z0t; (refine z02 (zh5 rfl) rfl rfl ?_)))) | (apply z09; (first | refine z0m ?_ | apply z07 | refine z1r ?_)) | (apply z08; (first | apply z0b | apply z00 | apply z04 | apply z01 | apply z03 | refine z0h (fun _ => ?_) (fun _ => ?_))))
   all_goals try (exfalso; omega)
   all_goals exact z0j Tryz.func95 _ z15 ⟨rfl, rfl⟩
 rw [if_neg h3]
 cases p <;> cases q
 all_goals repeat' (first | (apply z0a; (first | refine z0n ?_| (apply z0t; (refine z02 (zh5 rfl) rfl rfl ?_)))) | (apply z09; (first | refine z0m ?_ | apply z07 | refine z1r ?_)) | (apply z08; (first | apply z0b | apply z00 | apply z04 | apply z01 | apply z03 | refine z0h (fun _ => ?_) (fun _ => ?_))))
 all_goals try (exfalso; omega)
 all_goals exact z0j Tryz.func95 _ z15 ⟨rfl, rfl⟩
def zk1 (op : Int) (p q : Int) : Bool := if op = 1 then decide (p < 0) || decide (q < 0) else if op = 3 then decide (p < 0) else decide (p < 0) && decide (q < 0)
theorem zlv (op p q : Int) : z13 Tryz.prog 100 [I .i64 op, .d (.agg [z2j p, z2j q])] (B (zk1 op p q)) := by
 refine z1k fun H => ?_
 refine z0k Tryz.func100 (by kernel_rfl) rfl (by simp) ?_
 dsimp only [Tryz.f100]
 rw [zk1]
 by_cases h1 : op = 1
 · rw [if_pos h1]
   by_cases p0 : p < 0
   · rw [decide_eq_true p0, Bool.true_or]
     repeat' (first | (apply z0a; (first | refine z0n ?_| (apply z06; (refine z02 z1e rfl rfl ?_)) | (apply z0d; (refine z02 z0i rfl rfl ?_)) | (apply z1q; (refine z05 z3z ?_)))) | (apply z09; (first | refine z0m ?_ | apply z07 | refine z1r ?_| refine z2k (fun _ => ?_) (fun _ => ?_))) | (apply z08; (first | apply z0b | apply z00 | apply z04 | apply z01 | apply z03 | refine z0h (fun _ => ?_) (fun _ => ?_))))
     all_goals try (exfalso; omega)
     all_goals exact z0j Tryz.func100 _ z15 ⟨rfl, rfl⟩
   · rw [decide_eq_false p0, Bool.false_or]
     repeat' (first | (apply z0a; (first | refine z0n ?_| (apply z06; (refine z02 z1e rfl rfl ?_)) | (apply z0d; (refine z02 z0i rfl rfl ?_)) | (apply z1q; (refine z05 z3z ?_)))) | (apply z09; (first | refine z0m ?_ | apply z07 | refine z1r ?_| refine z2k (fun _ => ?_) (fun _ => ?_))) | (apply z08; (first | apply z0b | apply z00 | apply z04 | apply z01 | apply z03 | refine z0h (fun _ => ?_) (fun _ => ?_))))
     all_goals try (exfalso; omega)
     all_goals exact z0j Tryz.func100 _ z15 ⟨rfl, rfl⟩
 rw [if_neg h1]
 by_cases h3 : op = 3
 · rw [if_pos h3]
   repeat' (first | (apply z0a; (first | refine z0n ?_| (apply z06; (refine z02 z1e rfl rfl ?_)) | (apply z0d; (refine z02 z0i rfl rfl ?_)) | (apply z1q; (refine z05 z3z ?_)))) | (apply z09; (first | refine z0m ?_ | apply z07 | refine z1r ?_| refine z2k (fun _ => ?_) (fun _ => ?_))) | (apply z08; (first | apply z0b | apply z00 | apply z04 | apply z01 | apply z03 | refine z0h (fun _ => ?_) (fun _ => ?_))))
   all_goals try (exfalso; omega)
   all_goals exact z0j Tryz.func100 _ z15 ⟨rfl, rfl⟩
 rw [if_neg h3]
 by_cases p0 : p < 0
 · rw [decide_eq_true p0, Bool.true_and]
   repeat' (first | (apply z0a; (first | refine z0n ?_| (apply z06; (refine z02 z1e rfl rfl ?_)) | (apply z0d; (refine z02 z0i rfl rfl ?_)) | (apply z1q; (refine z05 z3z ?_)))) | (apply z09; (first | refine z0m ?_ | apply z07 | refine z1r ?_| refine z2k (fun _ => ?_) (fun _ => ?_))) | (apply z08; (first | apply z0b | apply z00 | apply z04 | apply z01 | apply z03 | refine z0h (fun _ => ?_) (fun _ => ?_))))
   all_goals try (exfalso; omega)
   all_goals exact z0j Tryz.func100 _ z15 ⟨rfl, rfl⟩
 · rw [decide_eq_false p0, Bool.false_and]
   repeat' (first | (apply z0a; (first | refine z0n ?_| (apply z06; (refine z02 z1e rfl rfl ?_)) | (apply z0d; (refine z02 z0i rfl rfl ?_)) | (apply z1q; (refine z05 z3z ?_)))) | (apply z09; (first | refine z0m ?_ | apply z07 | refine z1r ?_| refine z2k (fun _ => ?_) (fun _ => ?_))) | (apply z08; (first | apply z0b | apply z00 | apply z04 | apply z01 | apply z03 | refine z0h (fun _ => ?_) (fun _ => ?_))))
   all_goals try (exfalso; omega)
   all_goals exact z0j Tryz.func100 _ z15 ⟨rfl, rfl⟩
theorem zed (a : Au) (q : Int) (hq : q < a.F.length) : z13 Tryz.prog 96 [.d (auD a), I .i64 q] (B (a.fin q)) := by
 obtain ⟨F, A⟩ := a
 refine z1k fun H => ?_
 refine z0k Tryz.func96 (by kernel_rfl) rfl (by simp) ?_
 dsimp only [Tryz.f96]
 rw [Au.fin]
 by_cases hn : q < 0
 · rw [if_pos hn]
   repeat' (first | (apply z0a; (first | refine z0n ?_| (apply z06; (refine z02 z1e rfl rfl ?_)) | (apply z0d; (refine z02 z0i rfl rfl ?_)) | (apply z1q; (refine z05 z3z ?_)))) | (apply z09; (first | refine z0m ?_ | apply z07 | refine z1r ?_| refine z2k (fun _ => ?_) (fun _ => ?_))) | (apply z08; (first | apply z0b | apply z00)))
   all_goals try (exfalso; omega)
   all_goals exact z0j Tryz.func96 _ z15 ⟨rfl, rfl⟩
 · rw [if_neg hn]
   obtain ⟨k, rfl⟩ : ∃ k : Nat, q = k := ⟨q.toNat, by omega⟩
   simp only at hq
   obtain ⟨b, hb⟩ : ∃ b, F[k]? = some b := ⟨_, List.getElem?_eq_getElem (by omega)⟩
   simp only [Int.toNat_natCast, List.getD, hb, Option.getD_some]
   repeat' (first | (apply z0a; (first | refine z0n ?_| (apply z06; (first | refine z02 z1e rfl rfl ?_| refine z02 z2e rfl rfl ?_)) | (apply z0d; (refine z02 z0i rfl rfl ?_)) | (apply z0e; (refine z02 (z11 (ys := F.map fun b => [z7w b]) rfl (idx (g := fun b => [z7w b]) hb)) rfl rfl ?_)) | (apply z1q; (refine z05 z3z ?_)))) | (apply z09; (first | refine z0m ?_ | apply z07)) | (apply z08; (first | apply z0b | apply z00)))
   all_goals try (exfalso; omega)
   all_goals exact z0j Tryz.func96 _ z15 ⟨rfl, rfl⟩
theorem zi0 (a : Au) (q : Int) (hq : q < a.A.length) : z13 Tryz.prog 98 [.d (auD a), I .i64 q] (.d (z8m (a.arcs q))) := by
 obtain ⟨F, A⟩ := a
 refine z1k fun H => ?_
 refine z0k Tryz.func98 (by kernel_rfl) rfl (by simp) ?_
 dsimp only [Tryz.f98]
 rw [Au.arcs]
 by_cases hn : q < 0
 · rw [if_pos hn]
   repeat' (first | (apply z0a; (first | refine z0n ?_| (apply z06; (refine z02 z1e rfl rfl ?_)) | (apply z0d; (refine z02 z0i rfl rfl ?_)) | (apply z1q; (refine z05 z3z ?_)))) | (apply z09; (first | refine z0m ?_ | apply z07)) | (apply z08; (first | apply z0b | apply z00 | apply z04 | refine z0h (fun _ => ?_) (fun _ => ?_))))
   all_goals try (exfalso; omega)
   refine zua 4 rfl ?_
   all_goals exact z0j Tryz.func98 _ z15 ⟨rfl, rfl⟩
 · rw [if_neg hn]
   obtain ⟨k, rfl⟩ : ∃ k : Nat, q = k := ⟨q.toNat, by omega⟩
   simp only at hq
   obtain ⟨l, hb⟩ : ∃ l, A[k]? = some l := ⟨_, List.getElem?_eq_getElem (by omega)⟩
   simp only [Int.toNat_natCast, List.getD, hb, Option.getD_some]
   repeat' (first | (apply z0a; (first | refine z0n ?_| (apply z06; (first | refine z02 z1e rfl rfl ?_| refine z02 z2e rfl rfl ?_)) | (apply z0d; (refine z02 z0i rfl rfl ?_)) | (apply z0e; (refine z02 (z11 (ys := A.map z5m) rfl (idx hb)) rfl rfl ?_)) | (apply z1q; (refine z05 z3z ?_)))) | (apply z09; (first | refine z0m ?_ | apply z07)) | (apply z08; (first | apply z0b | apply z00 | refine z14 ?_| apply z04)))
   all_goals try (exfalso; omega)
   all_goals exact z0j Tryz.func98 _ z15 ⟨rfl, rfl⟩
end Go.Proofs.YthdfkabdoidjfaaGreatDoor
namespace Go.Proofs.YthdfkabdoidjfaaGreatDoor
open Go.Ab Go.Ax
set_option maxHeartbeats 20000000
set_option maxRecDepth 100000
attribute [local irreducible] Run Ops Op1 z23 Val Tr z13 z22 NF Rel z4e z4d
theorem zqx (l : List Arc) (hl : l.length ≤ 2000000) : z13 Tryz.prog 85 [.d (z8m l)] (.d (z8m l)) := by
 refine z1k fun H => ?_
 refine z0k Tryz.func85 (by kernel_rfl) rfl (by simp) ?_
 dsimp only [Tryz.f85]
 repeat' (first | (apply z0a; (first | refine z0n ?_| (apply z0x; (refine z02 (z1i rfl) rfl rfl ?_)))) | (apply z09; (first | refine z0m ?_ | apply z07)) | (apply z08; (first | apply z0b | apply z00 | apply z01)))
 all_goals try (exfalso; omega)
 refine z2b 3 1000 169 3 rfl rfl rfl ?_
 refine z1f ?_
 refine z0f (z2f (fun q : Nat => ⟨24, [(3, .ref (0, 1000)), (6, .d (z8m l)), (7, I .i64 l.length), (8, I .i64 (q : Nat))], [(1000, .row 169 3 ((l.take q).map z2r))], H⟩) (fun q => q ≤ l.length) (fun q => l.length - q) ?_ 0 (Nat.zero_le _)) rfl rfl
 rintro i i1 ih
 by_cases hlt : i < l.length
 · obtain ⟨x, hx⟩ : ∃ x, l[i]? = some x := ⟨_, List.getElem?_eq_getElem hlt⟩
   have ih' := ih (i + 1) (by omega) (by omega)
   rw [z4t hx] at ih'
   have htl : (l.take i).length ≤ 2000000 := by rw [List.length_take]; omega
   generalize l.take i = Q at *
   repeat' (first | (apply z0a; (first | refine z0n ?_| (apply z06; (first | refine z02 z1e rfl rfl ?_| refine z02 z1s rfl rfl ?_)) | (apply z0d; (refine z02 z0i rfl rfl ?_)) | (apply z0e; (refine z02 (z11 (ys := l.map z2r) rfl (idx hx)) rfl rfl ?_)) | (apply z0t; (refine z02 (z0r z1d) rfl rfl ?_)) | (apply z0x; (refine z38 (g := z2r) x rfl ?_)) | (apply z0c; (refine z1u ?_)) | (apply z0g; (refine z05 z29 ?_)) | (apply z0z; (refine z3q ?_)) | (apply z1z; (refine z2d rfl ?_)))) | (apply z09; (first | refine z0m ?_ | apply z07)) | (apply z08; (first | apply z0b | apply z00 | apply z04 | apply z01 | apply z03 | refine z0h (fun _ => ?_) (fun _ => ?_)| refine z0l ?_)))
   all_goals try (exfalso; omega)
   all_goals refine z1y 21 1000 ?_
   all_goals exact z0f ih' rfl rfl
 · obtain rfl : i = l.length := by omega
   rw [List.take_length] at *
   repeat' (first | (apply z0a; (refine z0n ?_)) | (apply z09; (first | refine z0m ?_ | apply z07)) | (apply z08; (first | apply z0b | apply z00 | apply z04 | apply z01 | refine z0h (fun _ => ?_) (fun _ => ?_)| refine z0l ?_)))
   all_goals try (exfalso; omega)
   all_goals refine z1l 1000 rfl ?_
   all_goals exact z0j Tryz.func85 _ z15 ⟨rfl, rfl⟩
def z5v (l : List Arc) : List Rx.Rg := l.map fun x => (x.1, x.2.1)
theorem zcd (l : List Arc) (hl : l.length ≤ 2000000) : z13 Tryz.prog 99 [.d (z8m l)] (.d (rgs (z5v l))) := by
 refine z1k fun H => ?_
 refine z0k Tryz.func99 (by kernel_rfl) rfl (by simp) ?_
 dsimp only [Tryz.f99]
 repeat' (first | (apply z0a; (first | refine z0n ?_| (apply z0x; (refine z02 (z1i rfl) rfl rfl ?_)))) | (apply z09; (first | refine z0m ?_ | apply z07)) | (apply z08; (first | apply z0b | apply z00 | apply z01)))
 all_goals try (exfalso; omega)
 refine z2b 3 1000 155 2 rfl rfl rfl ?_
 refine z1f ?_
 refine z0f (z2f (fun q : Nat => ⟨22, [(3, .ref (0, 1000)), (6, .d (z8m l)), (7, I .i64 l.length), (8, I .i64 (q : Nat))], [(1000, .row 155 2 (((z5v l).take q).map rgc))], H⟩) (fun q => q ≤ l.length) (fun q => l.length - q) ?_ 0 (Nat.zero_le _)) rfl rfl
 rintro i i1 ih
 by_cases hlt : i < l.length
 · obtain ⟨x, hx⟩ : ∃ x, l[i]? = some x := ⟨_, List.getElem?_eq_getElem hlt⟩
   have hr : (z5v l)[i]? = some (x.1, x.2.1) := by rw [z5v, List.getElem?_map, hx]; rfl
   have ih' := ih (i + 1) (by omega) (by omega)
   rw [z4t hr] at ih'
   have htl : ((z5v l).take i).length ≤ 2000000 := by rw [List.length_take]; omega
   generalize (z5v l).take i = Q at *
   repeat' (first | (apply z0a; (first | refine z0n ?_| (apply z06; (first | refine z02 z1e rfl rfl ?_| refine z02 z1s rfl rfl ?_)) | (apply z0d; (refine z02 z0i rfl rfl ?_)) | (apply z0e; (refine z02 (z11 (ys := l.map z2r) rfl (idx hx)) rfl rfl ?_)) | (apply z0t; (refine z02 (z0r z1d) rfl rfl ?_)) | (apply z0x; (refine z38 (g := rgc) (x.1, x.2.1) rfl ?_)) | (apply z0c; (refine z1u ?_)) | (apply z0g; (refine z05 z29 ?_)) | (apply z0z; (refine z3q ?_)) | (apply z1z; (refine z2d rfl ?_)))) | (apply z09; (first | refine z0m ?_ | apply z07)) | (apply z08; (first | apply z0b | apply z00 | apply z04 | apply z01 | apply z03 | refine z0h (fun _ => ?_) (fun _ => ?_)| refine z0l ?_)))
   all_goals try (exfalso; omega)
   all_goals refine z1y 19 1000 ?_
   all_goals exact z0f ih' rfl rfl
 · obtain rfl : i = l.length := by omega
   rw [show l.length = (z5v l).length by rw [z5v, List.length_map], List.take_length] at *
   repeat' (first | (apply z0a; (refine z0n ?_)) | (apply z09; (first | refine z0m ?_ | apply z07)) | (apply z08; (first | apply z0b | apply z00 | apply z04 | apply z01 | refine z0h (fun _ => ?_) (fun _ => ?_)| refine z0l ?_)))
   all_goals try (exfalso; omega)
   all_goals refine z1l 1000 rfl ?_
   all_goals exact z0j Tryz.func99 _ z15 ⟨rfl, rfl⟩
end Go.Proofs.YthdfkabdoidjfaaGreatDoor
namespace Go.Proofs.YthdfkabdoidjfaaGreatDoor
open Go.Ab Go.Ax
set_option maxHeartbeats 20000000
set_option maxRecDepth 100000
attribute [local irreducible] Run Ops Op1 z23 Val Tr z13 z22 NF Rel z4e z4d
abbrev ints (l : List Int) : D := .slice (l.map fun x => [z2j x])
theorem zf7 (l : List Arc) (cl : List Int) (hl : l.length ≤ 2000000) (hr : ∀ x ∈ l, 0 ≤ x.1 ∧ x.1 ≤ x.2.1 ∧ x.2.1 ≤ 1114111 ∧ 0 ≤ x.2.2 ∧ x.2.2 < cl.length) : z13 Tryz.prog 81 [.d (z8m l), .d (ints cl)] (.d (z8m (byC cl l))) := by
 refine z1k fun H => ?_
 refine z0k Tryz.func81 (by kernel_rfl) rfl (by simp) ?_
 dsimp only [Tryz.f81]
 repeat' (first | (apply z0a; (first | refine z0n ?_| (apply z0x; (refine z02 (z1i rfl) rfl rfl ?_)))) | (apply z09; (first | refine z0m ?_ | apply z07)) | (apply z08; (first | apply z0b | apply z00 | apply z01)))
 all_goals try (exfalso; omega)
 refine z2b 5 1000 169 3 rfl rfl rfl ?_
 refine z1f ?_
 refine z0f (z2f (fun q : Nat × List Arc => ⟨67, [(1, .d (ints cl)), (5, .ref (0, 1000)), (10, .d (z8m l)), (11, I .i64 l.length), (12, I .i64 (q.1 : Nat))], [(1000, .row 169 3 (q.2.map z2r))], H⟩) (fun q => q.1 ≤ l.length ∧ q.2.length ≤ q.1 ∧ (∀ y ∈ q.2, 0 ≤ y.2.1 ∧ y.2.1 ≤ 1114111) ∧ (l.drop q.1).foldl (z8x cl) q.2 = byC cl l) (fun q => l.length - q.1) ?_ (0, []) ⟨Nat.zero_le _, Nat.le_refl _, by simp, rfl⟩) rfl rfl
 rintro ⟨i, out⟩ ⟨i1, i2, i3, i4⟩ ih
 simp only at i1 i2 i3 i4 ih ⊢
 by_cases hlt : i < l.length
 · obtain ⟨x, hx⟩ : ∃ x, l[i]? = some x := ⟨_, List.getElem?_eq_getElem hlt⟩
   obtain ⟨r1, r2, r3, r4, r5⟩ := hr x (List.mem_of_getElem? hx)
   obtain ⟨k, hk⟩ : ∃ k, cl[x.2.2.toNat]? = some k := ⟨_, List.getElem?_eq_getElem (by omega)⟩
   have hck : clA cl x.2.2 = k := by rw [clA, if_neg (by omega), List.getD, hk]; rfl
   rw [drop_cons hx, List.foldl_cons, z8x, hck] at i4
   by_cases hneg : k < 0
   · rw [if_pos hneg] at i4
     have ih' := ih (i + 1, out) ⟨by simp only; omega, by simp only; omega, i3, i4⟩ (by simp only; omega)
     repeat' (first | (apply z0a; (first | refine z0n ?_| (apply z06; (first | refine z02 z1e rfl rfl ?_| refine z02 z2e rfl rfl ?_| refine z02 z1s rfl rfl ?_)) | (apply z0d; (refine z02 z0i rfl rfl ?_)) | (apply z0e; (first | refine z02 (z11 (ys := l.map z2r) rfl (idx hx)) rfl rfl ?_| refine z02 (z11 (ys := cl.map fun x => [z2j x]) rfl (zdb (g := fun x => [z2j x]) hk)) rfl rfl ?_)) | (apply z0t; (refine z02 (z0r z1d) rfl rfl ?_)) | (apply z0x; (refine z02 (z1h rfl) rfl rfl ?_)) | (apply z0c; (refine z1u ?_)) | (apply z0g; (refine z05 z29 ?_)) | (apply z0z; (refine z3q ?_)) | (apply z1z; (refine z2d rfl ?_)))) | (apply z09; (first | refine z0m ?_ | apply z07)) | (apply z08; (first | apply z0b | apply z00 | refine z14 ?_| apply z04 | apply z01 | apply z3b | refine z0h (fun _ => ?_) (fun _ => ?_)| refine z0l ?_)) | (apply z3a; (first | (apply z1a; refine z1t mix ?_) | refine z2w ?_| refine z3c ?_| (apply z25; (refine z0o (z1w z1d) rfl rfl ?_)) | (refine z1n rfl rfl (fun hg => ?_) (fun hg => ?_) <;> simp only [hg] <;> (try simp only [decide_eq_true_eq, decide_eq_false_iff_not, Bool.not_eq_true', Bool.not_eq_false'] at hg)))))
     all_goals try (exfalso; omega)
     all_goals exact z0f ih' rfl rfl
   · rw [if_neg hneg] at i4
     have hln := z9g out x.1 x.2.1 k
     have ih' := ih (i + 1, ext out x.1 x.2.1 k) ⟨by simp only; omega, by simp only; omega, fun y hy => by
      rcases ext_mem hy with h | h
      · omega
      · exact i3 y h, i4⟩ (by simp only; omega)
     clear ih hln
     rcases zgh out with rfl | ⟨m, y, rfl⟩
     · rw [ext_nil] at ih'
       simp only at ih'
       repeat' (first | (apply z0a; (first | refine z0n ?_| (apply z06; (first | refine z02 z1e rfl rfl ?_| refine z02 z2e rfl rfl ?_| refine z02 z1s rfl rfl ?_)) | (apply z0d; (refine z02 z0i rfl rfl ?_)) | (apply z0e; (first | refine z02 (z11 (ys := l.map z2r) rfl (idx hx)) rfl rfl ?_| refine z02 (z11 (ys := cl.map fun x => [z2j x]) rfl (zdb (g := fun x => [z2j x]) hk)) rfl rfl ?_)) | (apply z0t; (refine z02 (z0r z1d) rfl rfl ?_)) | (apply z0x; (first | refine z02 (z6e rfl) rfl rfl ?_| refine z4m (g := z2r) rfl rfl (x.1, x.2.1, k) rfl rfl rfl rfl rfl rfl rfl (by decide) (by simp) ?_)) | (apply z0c; (refine z1u ?_)) | (apply z0g; (refine z05 z29 ?_)) | (apply z0z; (refine z3q ?_)) | (apply z1z; (refine z2d rfl ?_)))) | (apply z09; (first | refine z0m ?_ | apply z07)) | (apply z08; (first | apply z0b | apply z00 | refine z14 ?_| apply z04 | apply z01 | apply z3b | apply z03 | refine z0h (fun _ => ?_) (fun _ => ?_)| refine z0l ?_)) | (apply z3a; (first | (apply z1a; refine z1t mix ?_) | refine z2w ?_| refine z3c ?_)))
       all_goals try (exfalso; first | omega | (simp at *; done))
       all_goals refine z1y 64 1000 ?_
       all_goals exact z0f ih' rfl rfl
     · have hy := i3 y (by simp)
       have hln : ((m ++ [y]).map z2r).length = m.length + 1 := by simp
       have hln2 : (m ++ [y]).length = m.length + 1 := by simp
       have hix : (m ++ [y])[((((((m ++ [y]).map z2r).length : Nat) : Int) - 1)).toNat]? = some y := by
        rw [hln, show (((m.length + 1 : Nat) : Int) - 1).toNat = m.length by omega]; simp
       have hse : (m ++ [y]).set ((((((m ++ [y]).map z2r).length : Nat) : Int) - 1)).toNat ((y.1, x.2.1, y.2.2) : Arc) = m ++ [(y.1, x.2.1, y.2.2)] := by
        rw [hln, show (((m.length + 1 : Nat) : Int) - 1).toNat = m.length by omega]; simp
       rw [z3s] at ih'
       by_cases hj : y.2.1 + 1 = x.1 ∧ y.2.2 = k
       · rw [if_pos hj, ← hj.2] at ih'
         simp only at ih'
         repeat' (first | (apply z0a; (first | refine z0n ?_| (apply z06; (first | refine z02 z1e rfl rfl ?_| refine z02 z2e rfl rfl ?_| refine z02 z1s rfl rfl ?_)) | (apply z0d; (first | refine z02 z0i rfl rfl ?_| refine z02 z36 rfl rfl ?_)) | (apply z0e; (first | refine z02 (z11 (ys := l.map z2r) rfl (idx hx)) rfl rfl ?_| refine z02 (z11 (ys := cl.map fun x => [z2j x]) rfl (zdb (g := fun x => [z2j x]) hk)) rfl rfl ?_| refine z02 (z2t rfl) rfl rfl ?_)) | (apply z0t; (first | refine z02 (z0r z1d) rfl rfl ?_| refine z02 (z1w z1d) rfl rfl ?_)) | (apply z0x; (first | refine z02 (z6e rfl) rfl rfl ?_| refine z38 (g := z2r) (x.1, x.2.1, k) rfl ?_)) | (apply z0c; (first | refine z3x ((y.1, x.2.1, y.2.2) : Arc) hix hse ?_| refine z1u ?_)) | (apply z0g; (refine z05 z29 ?_)) | (apply z0z; (refine z3q ?_)) | (apply z1z; (refine z2d rfl ?_)))) | (apply z09; (first | refine z0m ?_ | apply z07)) | (apply z08; (first | apply z0b | apply z00 | refine z14 ?_| apply z04 | apply z01 | apply z3b | apply z03 | refine z0h (fun _ => ?_) (fun _ => ?_)| refine z0l ?_)) | (apply z3a; (first | (apply z1a; refine z1t mix ?_) | refine z2w ?_| refine z3c ?_| (apply z0v; (first | refine z0o (z1v (u := z56 y.2.1) hix) rfl rfl ?_| refine z0o (z1v (u := z2j y.2.2) hix) rfl rfl ?_| refine z0o z1e rfl rfl ?_)) | (apply z0u; (first | refine z0o z0i rfl rfl ?_| refine z0o z36 rfl rfl ?_)) | (apply z19; (refine z0o (z2t rfl) rfl rfl ?_)) | (apply z25; (first | refine z0o (z0r (z9a (by omega) (by omega))) rfl rfl ?_| refine z0o (z1w z1d) rfl rfl ?_)) | (refine z1n rfl rfl (fun hg => ?_) (fun hg => ?_) <;> simp only [hg] <;> (try simp only [decide_eq_true_eq, decide_eq_false_iff_not, Bool.not_eq_true', Bool.not_eq_false'] at hg)))))
         all_goals try (exfalso; omega)
         all_goals exact z0f ih' rfl rfl
       · rw [if_neg hj] at ih'
         simp only at ih'
         repeat' (first | (apply z0a; (first | refine z0n ?_| (apply z06; (first | refine z02 z1e rfl rfl ?_| refine z02 z2e rfl rfl ?_| refine z02 z1s rfl rfl ?_)) | (apply z0d; (first | refine z02 z0i rfl rfl ?_| refine z02 z36 rfl rfl ?_)) | (apply z0e; (first | refine z02 (z11 (ys := l.map z2r) rfl (idx hx)) rfl rfl ?_| refine z02 (z11 (ys := cl.map fun x => [z2j x]) rfl (zdb (g := fun x => [z2j x]) hk)) rfl rfl ?_| refine z02 (z2t rfl) rfl rfl ?_)) | (apply z0t; (first | refine z02 (z0r z1d) rfl rfl ?_| refine z02 (z1w z1d) rfl rfl ?_)) | (apply z0x; (first | refine z02 (z6e rfl) rfl rfl ?_| refine z38 (g := z2r) (x.1, x.2.1, k) rfl ?_)) | (apply z0c; (first | refine z3x ((y.1, x.2.1, y.2.2) : Arc) hix hse ?_| refine z1u ?_)) | (apply z0g; (refine z05 z29 ?_)) | (apply z0z; (refine z3q ?_)) | (apply z1z; (refine z2d rfl ?_)))) | (apply z09; (first | refine z0m ?_ | apply z07)) | (apply z08; (first | apply z0b | apply z00 | refine z14 ?_| apply z04 | apply z01 | apply z3b | apply z03 | refine z0h (fun _ => ?_) (fun _ => ?_)| refine z0l ?_)) | (apply z3a; (first | (apply z1a; refine z1t mix ?_) | refine z2w ?_| refine z3c ?_| (apply z0v; (first | refine z0o (z1v (u := z56 y.2.1) hix) rfl rfl ?_| refine z0o (z1v (u := z2j y.2.2) hix) rfl rfl ?_| refine z0o z1e rfl rfl ?_)) | (apply z0u; (first | refine z0o z0i rfl rfl ?_| refine z0o z36 rfl rfl ?_)) | (apply z19; (refine z0o (z2t rfl) rfl rfl ?_)) | (apply z25; (first | refine z0o (z0r (z9a (by omega) (by omega))) rfl rfl ?_| refine z0o (z1w z1d) rfl rfl ?_)) | (refine z1n rfl rfl (fun hg => ?_) (fun hg => ?_) <;> simp only [hg] <;> (try simp only [decide_eq_true_eq, decide_eq_false_iff_not, Bool.not_eq_true', Bool.not_eq_false'] at hg)))))
         all_goals try (exfalso; omega)
         all_goals refine z1y 64 1000 ?_
         all_goals exact z0f ih' rfl rfl
 · obtain rfl : i = l.length := by omega
   rw [List.drop_length, List.foldl_nil] at i4
   rw [← i4]
   repeat' (first | (apply z0a; (refine z0n ?_)) | (apply z09; (first | refine z0m ?_ | apply z07)) | (apply z08; (first | apply z0b | apply z00 | apply z04 | apply z01 | refine z0h (fun _ => ?_) (fun _ => ?_)| refine z0l ?_)))
   all_goals try (exfalso; omega)
   all_goals refine z1l 1000 rfl ?_
   all_goals exact z0j Tryz.func81 _ z15 ⟨rfl, rfl⟩
end Go.Proofs.YthdfkabdoidjfaaGreatDoor
namespace Go.Proofs.YthdfkabdoidjfaaGreatDoor
open Go.Ab Go.Ax Go.Rx
set_option maxHeartbeats 20000000
set_option maxRecDepth 100000
attribute [local irreducible] Run Ops Op1 z23 Val Tr z13 z22 NF Rel z4e z4d
theorem zg8 (l : List Rg) (hl : l.length ≤ 9223372036854775807) (c : Int) : z13 Tryz.prog 62 [.d (rgs l), I .i32 c] (B (inB l c)) := by
 refine z1k fun H => ?_
 refine z0k Tryz.func62 (by kernel_rfl) rfl (by simp) ?_
 dsimp only [Tryz.f62]
 repeat' (first | (apply z0a; (first | refine z0n ?_| (apply z0x; (refine z02 (z1i rfl) rfl rfl ?_)))) | (apply z09; (first | refine z0m ?_ | apply z07)) | (apply z08; (first | apply z0b | apply z00 | apply z01)))
 all_goals try (exfalso; omega)
 refine z1f ?_
 refine z0f (z2f (fun q : Nat => ⟨24, [(1, I .i32 c), (7, .d (rgs l)), (8, I .i64 l.length), (9, I .i64 (q : Nat))], [], H⟩) (fun q => q ≤ l.length ∧ inB (l.drop q) c = inB l c) (fun q => l.length - q) ?_ 0 ⟨Nat.zero_le _, rfl⟩) rfl rfl
 intro q ⟨i1, i2⟩ ih
 by_cases hlt : q < l.length
 · obtain ⟨r, hr⟩ : ∃ r, l[q]? = some r := ⟨_, List.getElem?_eq_getElem hlt⟩
   rw [drop_cons hr, inB, List.any_cons, ← inB] at i2
   by_cases hc : r.1 ≤ c ∧ c ≤ r.2
   · rw [decide_eq_true hc.1, decide_eq_true hc.2, Bool.true_and, Bool.true_or] at i2
     rw [← i2]
     repeat' (first | (apply z0a; (first | refine z0n ?_| (apply z06; (first | refine z02 z1e rfl rfl ?_| refine z02 z1s rfl rfl ?_)) | (apply z0d; (refine z02 z0i rfl rfl ?_)) | (apply z0e; (refine z02 (z11 (ys := l.map rgc) rfl (idx hr)) rfl rfl ?_)) | (apply z0t; (refine z02 (z0r z1d) rfl rfl ?_)) | (apply z0c; (refine z1u ?_)) | (apply z0g; (refine z05 z29 ?_)))) | (apply z09; (first | refine z0m ?_ | apply z07 | refine z1r ?_| refine z2k (fun _ => ?_) (fun _ => ?_))) | (apply z08; (first | apply z0b | apply z00 | refine z14 ?_| apply z04 | apply z01 | apply z03 | refine z0h (fun _ => ?_) (fun _ => ?_)| refine z0l ?_)))
     all_goals try (exfalso; omega)
     all_goals exact z0j Tryz.func62 _ z15 ⟨rfl, rfl⟩
   · have hf : (decide (r.1 ≤ c) && decide (c ≤ r.2)) = false := by
      rw [← Bool.decide_and]; exact decide_eq_false hc
     rw [hf, Bool.false_or] at i2
     repeat' (first | (apply z0a; (first | refine z0n ?_| (apply z06; (first | refine z02 z1e rfl rfl ?_| refine z02 z1s rfl rfl ?_)) | (apply z0d; (refine z02 z0i rfl rfl ?_)) | (apply z0e; (refine z02 (z11 (ys := l.map rgc) rfl (idx hr)) rfl rfl ?_)) | (apply z0t; (refine z02 (z0r z1d) rfl rfl ?_)) | (apply z0c; (refine z1u ?_)) | (apply z0g; (refine z05 z29 ?_)))) | (apply z09; (first | refine z0m ?_ | apply z07 | refine z1r ?_| refine z2k (fun _ => ?_) (fun _ => ?_))) | (apply z08; (first | apply z0b | apply z00 | refine z14 ?_| apply z04 | apply z01 | apply z03 | refine z0h (fun _ => ?_) (fun _ => ?_)| refine z0l ?_)))
     all_goals try (exfalso; omega)
     all_goals exact z0f (ih (q + 1) ⟨by omega, i2⟩ (by omega)) rfl rfl
 · obtain rfl : q = l.length := by omega
   rw [List.drop_length, inB, List.any_nil] at i2
   rw [← i2]
   repeat' (first | (apply z0a; (refine z0n ?_)) | (apply z09; (first | refine z0m ?_ | apply z07)) | (apply z08; (first | apply z0b | apply z00 | apply z04 | apply z01 | refine z0h (fun _ => ?_) (fun _ => ?_)| refine z0l ?_)))
   all_goals try (exfalso; omega)
   all_goals exact z0j Tryz.func62 _ z15 ⟨rfl, rfl⟩
end Go.Proofs.YthdfkabdoidjfaaGreatDoor
namespace Go.Proofs.YthdfkabdoidjfaaGreatDoor
open Go.Ab Go.Ax Go.Rx
set_option maxHeartbeats 20000000
set_option maxRecDepth 100000
attribute [local irreducible] Run Ops Op1 z23 Val Tr z13 z22 NF Rel z4e z4d
abbrev cps (s : ByteArray) (i : Nat) : List Int := (rst s i).map (·.r)
def ztc (a : Au) (s : ByteArray) : Bool := if vAu a = 0 ∧ ztk s = true then a.acc 0 (cps s 0) else false
theorem zmq {a : Au} (hv : zy9 a) (k : Nat) (hk : k < a.F.length) (c : Int) : ∃ l, a.A[k]? = some l ∧ okA none l ∧ a.nx (k : Nat) c = nxt l c ∧ -1 ≤ nxt l c ∧ nxt l c < a.F.length := by
 obtain ⟨l, hl⟩ : ∃ l, a.A[k]? = some l := ⟨_, List.getElem?_eq_getElem (by rw [hv.len]; exact hk)⟩
 have hla := hv.arc l (List.mem_of_getElem? hl)
 refine ⟨l, hl, hla.1, by rw [Au.nx, Au.arcs, if_neg (by omega), Int.toNat_natCast, List.getD, hl]; rfl, zkz (p := none) hla.1 c, ?_⟩
 have key : ∀ m : List Arc, (∀ x ∈ m, x.2.2 < a.F.length) → nxt m c < a.F.length := fun m => by
  induction m with
  | nil => intro _; simp only [nxt]; have := hv.pos; omega
  | cons x m ih =>
   intro h
   rw [nxt]
   split
   · exact h x (by simp)
   · exact ih fun y hy => h y (by simp [hy])
 exact key l fun x hx => (hla.2 x hx).2.2.2.2
theorem zv6 (s : ByteArray) (hs : s.size ≤ 1000000) : z13 Tryz.prog 40 [S s] (B (ztk s)) := by
 have h := zrc s hs
 rw [zqd] at h
 exact h
theorem zs8 (a : Au) (hf : zg4 a) (hl : ∀ l ∈ a.A, l.length ≤ 4611686018427387904) (s : ByteArray) (hs : s.size ≤ 1000000) : z13 Tryz.prog 19 [.d (auD a), S s] (B (ztc a s)) := by
 have hv := zdj a hf
 have hd := zv6 s hs
 refine z1k fun H => ?_
 rw [ztc]
 by_cases h0 : vAu a = 0
 · rw [h0] at hv
   by_cases h1 : ztk s = true
   · have hva := zfl h0
     rw [if_pos ⟨h0, h1⟩]
     rw [h1] at hd
     obtain ⟨F, A⟩ := a
     simp only at hl
     refine z0k Tryz.func19 (by kernel_rfl) rfl (by simp) ?_
     dsimp only [Tryz.f19]
     repeat' (first | (apply z0a; (first | refine z0n ?_| (apply z06; (refine z02 z3k rfl rfl ?_)) | (apply z0q; (first | refine z1j hv ?_| refine z1j hd ?_)) | (apply z1q; (refine z05 z3z ?_)) | refine zb0 rfl rfl rfl (by decide) ?_)) | (apply z09; (first | refine z0m ?_ | apply z07)) | (apply z08; (first | apply z0b | apply z00 | refine z14 ?_| apply z04 | apply z01)))
     all_goals try (exfalso; omega)
     refine z1f ?_
     refine z0f (z2f (fun q : Nat × Nat => ⟨35, [(2, .ptr (0, 2) 0), (5, I .i64 (q.2 : Nat)), (17, .ptr (0, 17) 0)], [(17, .siter s q.1), (2, .box [.d (zkr F), .d (.slice (A.map z5m))])], H⟩) (fun q => q.1 ≤ s.size ∧ q.2 < F.length ∧ (⟨F, A⟩ : Au).acc (q.2 : Nat) (cps s q.1) = (⟨F, A⟩ : Au).acc 0 (cps s 0)) (fun q => s.size - q.1) ?_ (0, 0) ⟨Nat.zero_le _, hva.pos, rfl⟩) rfl rfl
     rintro ⟨q, k⟩ ⟨i1, i2, i3⟩ ih
     simp only at i1 i2 i3 ih ⊢
     by_cases hlt : q < s.size
     · have hd2 := zbe hlt
       have hw := zcs s q hlt
       rw [cps, hd2, List.map_cons, Au.acc_cons] at i3
       simp only at i3
       obtain ⟨l, hA, hlo, hnx, n0, n1⟩ := zmq hva k i2 ((Utf8.decode s q).1 : Nat)
       simp only at hA n1
       rw [hnx] at i3
       have hst := zkt l (hl l (List.mem_of_getElem? hA)) hlo ((Utf8.decode s q).1 : Nat)
       generalize nxt l ((Utf8.decode s q).1 : Nat) = r at *
       by_cases hr : r < 0
       · rw [Au.acc_neg _ _ hr] at i3
         rw [← i3]
         repeat' (first | (apply z0a; (first | refine z0n ?_| (apply z06; (first | refine z02 z1e rfl rfl ?_| refine z02 z2e rfl rfl ?_)) | (apply z0d; (refine z02 z0i rfl rfl ?_)) | (apply z0e; (refine z02 (z11 (ys := A.map z5m) rfl (idx hA)) rfl rfl ?_)) | (apply z0q; (refine z1j hst ?_)) | refine z30 hlt rfl rfl (by decide) ?_)) | (apply z09; (first | refine z0m ?_ | apply z07)) | (apply z08; (first | apply z0b | apply z00 | refine z1g ?_| apply z04 | apply z01 | apply z03 | refine z0h (fun _ => ?_) (fun _ => ?_))))
         all_goals try (exfalso; omega)
         all_goals exact z0j Tryz.func19 _ z15 ⟨rfl, rfl⟩
       · obtain ⟨r, rfl⟩ : ∃ r' : Nat, r = r' := ⟨r.toNat, by omega⟩
         have ih' := ih (q + (Utf8.decode s q).2, r) ⟨by simp only; omega, by simp only; omega, i3⟩ (by simp only; omega)
         repeat' (first | (apply z0a; (first | refine z0n ?_| (apply z06; (first | refine z02 z1e rfl rfl ?_| refine z02 z2e rfl rfl ?_)) | (apply z0d; (refine z02 z0i rfl rfl ?_)) | (apply z0e; (refine z02 (z11 (ys := A.map z5m) rfl (idx hA)) rfl rfl ?_)) | (apply z0q; (refine z1j hst ?_)) | refine z30 hlt rfl rfl (by decide) ?_)) | (apply z09; (first | refine z0m ?_ | apply z07)) | (apply z08; (first | apply z0b | apply z00 | refine z1g ?_| refine z14 ?_| apply z04 | apply z01 | apply z03)))
         all_goals try (exfalso; omega)
         all_goals exact z0f ih' rfl rfl
     · rw [cps, z7k (by omega), List.map_nil, Au.acc_nil, Au.fin, if_neg (by omega), Int.toNat_natCast] at i3
       obtain ⟨b, hb⟩ : ∃ b, F[k]? = some b := ⟨_, List.getElem?_eq_getElem i2⟩
       simp only [List.getD, hb, Option.getD_some] at i3
       rw [← i3]
       repeat' (first | (apply z0a; (first | refine z0n ?_| (apply z06; (first | refine z02 z1e rfl rfl ?_| refine z02 z2e rfl rfl ?_)) | (apply z0d; (refine z02 z0i rfl rfl ?_)) | (apply z0e; (refine z02 (z11 (ys := F.map fun b => [z7w b]) rfl (idx (g := fun b => [z7w b]) hb)) rfl rfl ?_)) | refine z3o hlt rfl rfl (by decide) ?_)) | (apply z09; (first | refine z0m ?_ | apply z07)) | (apply z08; (first | apply z0b | apply z00 | refine z14 ?_| refine z0l ?_)))
       all_goals try (exfalso; omega)
       all_goals exact z0j Tryz.func19 _ z15 ⟨rfl, rfl⟩
   · rw [if_neg (fun h => h1 h.2)]
     rw [Bool.not_eq_true] at h1
     rw [h1] at hd
     refine z0k Tryz.func19 (by kernel_rfl) rfl (by simp) ?_
     dsimp only [Tryz.f19]
     repeat' (first | (apply z0a; (first | refine z0n ?_| (apply z06; (refine z02 z3k rfl rfl ?_)) | (apply z0q; (first | refine z1j hv ?_| refine z1j hd ?_)) | (apply z1q; (refine z05 z3z ?_)))) | (apply z09; (first | refine z0m ?_ | apply z07)) | (apply z08; (first | apply z0b | apply z00 | refine z1g ?_)))
     all_goals try (exfalso; omega)
     all_goals exact z0j Tryz.func19 _ z15 ⟨rfl, rfl⟩
 · rw [if_neg (fun h => h0 h.1)]
   generalize vAu a = v at *
   refine z0k Tryz.func19 (by kernel_rfl) rfl (by simp) ?_
   dsimp only [Tryz.f19]
   repeat' (first | (apply z0a; (first | refine z0n ?_| (apply z06; (refine z02 z3k rfl rfl ?_)) | (apply z0q; (first | refine z1j hv ?_| refine z1j hd ?_)) | (apply z1q; (refine z05 z3z ?_)))) | (apply z09; (first | refine z0m ?_ | apply z07 | refine z1r ?_| refine z52 rfl rfl (fun _ => ?_) (fun _ => ?_))) | (apply z08; (first | apply z0b | apply z00 | refine z1g ?_| apply z04 | refine zb4 rfl (fun _ => ?_) (fun _ => ?_))))
   all_goals try (exfalso; omega)
   all_goals exact z0j Tryz.func19 _ z15 ⟨rfl, rfl⟩
end Go.Proofs.YthdfkabdoidjfaaGreatDoor
namespace Go.Proofs.YthdfkabdoidjfaaGreatDoor
open Go.Ab Go.Ax Go.Rx
set_option maxHeartbeats 20000000
set_option maxRecDepth 100000
attribute [local irreducible] Run Ops Op1 z23 Val Tr z13 z22 NF Rel z4e z4d
theorem ztw (a : Au) (hf : zg4 a) (hl : ∀ l ∈ a.A, l.length ≤ 4611686018427387904) (s : ByteArray) (hs : s.size ≤ 1000000) : z13 Tryz.prog 20 [.d (auD a), S s] (B (ztc a s)) := by
 have hv := zoj a hf
 have hd := zng s hs
 refine z1k fun H => ?_
 rw [ztc]
 by_cases h0 : vAu a = 0
 · rw [h0] at hv
   by_cases h1 : ztk s = true
   · have hva := zfl h0
     rw [if_pos ⟨h0, h1⟩]
     rw [h1] at hd
     have hlen := hva.len
     have hnb : ∀ c : Int, ∀ r : Int, r < 0 → z13 Tryz.prog 43 [.d (auD a), I .i64 r, I .i32 c] (I .i64 (-1)) := fun c r hr => zl9 a r hr c
     have hnn := fun (k : Nat) (hk : k < a.A.length) (c : Int) => zs3 a k hk hl c
     refine z0k Tryz.func20 (by kernel_rfl) rfl (by simp) ?_
     dsimp only [Tryz.f20]
     repeat' (first | (apply z0a; (first | refine z0n ?_| (apply z06; (refine z02 z3k rfl rfl ?_)) | (apply z0q; (first | refine z1j hv ?_| refine z1j hd ?_)) | (apply z1q; (refine z05 z3z ?_)) | refine zb0 rfl rfl rfl (by decide) ?_)) | (apply z09; (first | refine z0m ?_ | apply z07)) | (apply z08; (first | apply z0b | apply z00 | refine z14 ?_| apply z04 | apply z01)))
     all_goals try (exfalso; omega)
     refine z1f ?_
     refine z0f (z2f (fun q : Nat × Int => ⟨34, [(2, .ptr (0, 2) 0), (5, I .i64 q.2), (17, .ptr (0, 17) 0)], [(17, .siter s q.1), (2, .box ((auc a).map .d))], H⟩) (fun q => q.1 ≤ s.size ∧ q.2 < a.F.length ∧ a.acc q.2 (cps s q.1) = a.acc 0 (cps s 0)) (fun q => s.size - q.1) ?_ (0, 0) ⟨Nat.zero_le _, by have := hva.pos; simp only; omega, rfl⟩) rfl rfl
     rintro ⟨q, k⟩ ⟨i1, i2, i3⟩ ih
     simp only at i1 i2 i3 ih ⊢
     by_cases hlt : q < s.size
     · have hd2 := zbe hlt
       have hw := zcs s q hlt
       rw [cps, hd2, List.map_cons, Au.acc_cons] at i3
       simp only at i3
       by_cases hk : k < 0
       · have hst := hnb ((Utf8.decode s q).1 : Nat) k hk
         rw [a.nx_neg hk] at i3
         have ih' := ih (q + (Utf8.decode s q).2, -1) ⟨by simp only; omega, by simp only; have := hva.pos; omega, i3⟩ (by simp only; omega)
         repeat' (first | (apply z0a; (first | refine z0n ?_| (apply z06; (refine z02 z3k rfl rfl ?_)) | (apply z0q; (refine z1j hst ?_)) | refine z30 hlt rfl rfl (by decide) ?_)) | (apply z09; (first | refine z0m ?_ | apply z07)) | (apply z08; (first | apply z0b | apply z00 | refine z1g ?_| apply z04 | apply z01 | apply z03)))
         all_goals try (exfalso; omega)
         all_goals exact z0f ih' rfl rfl
       · obtain ⟨k, rfl⟩ : ∃ k' : Nat, k = k' := ⟨k.toNat, by omega⟩
         obtain ⟨l, hA, hlo, hnx, n0, n1⟩ := zmq hva k (by omega) ((Utf8.decode s q).1 : Nat)
         have hst := hnn k (by omega) ((Utf8.decode s q).1 : Nat)
         have ih' := ih (q + (Utf8.decode s q).2, a.nx (k : Nat) ((Utf8.decode s q).1 : Nat)) ⟨by simp only; omega, by simp only; omega, i3⟩ (by simp only; omega)
         simp only at ih'
         generalize a.nx (k : Nat) ((Utf8.decode s q).1 : Nat) = r at *
         repeat' (first | (apply z0a; (first | refine z0n ?_| (apply z06; (refine z02 z3k rfl rfl ?_)) | (apply z0q; (refine z1j hst ?_)) | refine z30 hlt rfl rfl (by decide) ?_)) | (apply z09; (first | refine z0m ?_ | apply z07)) | (apply z08; (first | apply z0b | apply z00 | refine z1g ?_| apply z04 | apply z01 | apply z03)))
         all_goals try (exfalso; omega)
         all_goals exact z0f ih' rfl rfl
     · rw [cps, z7k (by omega), List.map_nil, Au.acc_nil] at i3
       rw [← i3]
       by_cases hk : k < 0
       · rw [Au.fin, if_pos hk]
         repeat' (first | (apply z0a; (first | refine z0n ?_| (apply z06; (refine z02 z1e rfl rfl ?_)) | (apply z0d; (refine z02 z0i rfl rfl ?_)) | refine z3o hlt rfl rfl (by decide) ?_)) | (apply z09; (first | refine z0m ?_ | apply z07 | refine z1r ?_| refine z2k (fun _ => ?_) (fun _ => ?_))) | (apply z08; (first | apply z0b | apply z00 | refine z14 ?_| refine z0l ?_)))
         all_goals try (exfalso; omega)
         all_goals exact z0j Tryz.func20 _ z15 ⟨rfl, rfl⟩
       · obtain ⟨k, rfl⟩ : ∃ k' : Nat, k = k' := ⟨k.toNat, by omega⟩
         obtain ⟨b, hb⟩ : ∃ b, a.F[k]? = some b := ⟨_, List.getElem?_eq_getElem (by omega)⟩
         rw [Au.fin, if_neg hk, Int.toNat_natCast]
         simp only [List.getD, hb, Option.getD_some]
         repeat' (first | (apply z0a; (first | refine z0n ?_| (apply z06; (first | refine z02 z1e rfl rfl ?_| refine z02 z2e rfl rfl ?_)) | (apply z0d; (refine z02 z0i rfl rfl ?_)) | (apply z0e; (refine z02 (z11 (ys := a.F.map fun b => [z7w b]) rfl (idx (g := fun b => [z7w b]) hb)) rfl rfl ?_)) | refine z3o hlt rfl rfl (by decide) ?_)) | (apply z09; (first | refine z0m ?_ | apply z07)) | (apply z08; (first | apply z0b | apply z00 | refine z14 ?_| refine z0l ?_)))
         all_goals try (exfalso; omega)
         all_goals exact z0j Tryz.func20 _ z15 ⟨rfl, rfl⟩
   · rw [if_neg (fun h => h1 h.2)]
     rw [Bool.not_eq_true] at h1
     rw [h1] at hd
     refine z0k Tryz.func20 (by kernel_rfl) rfl (by simp) ?_
     dsimp only [Tryz.f20]
     repeat' (first | (apply z0a; (first | refine z0n ?_| (apply z06; (refine z02 z3k rfl rfl ?_)) | (apply z0q; (first | refine z1j hv ?_| refine z1j hd ?_)) | (apply z1q; (refine z05 z3z ?_)))) | (apply z09; (first | refine z0m ?_ | apply z07)) | (apply z08; (first | apply z0b | apply z00 | refine z1g ?_)))
     all_goals try (exfalso; omega)
     all_goals exact z0j Tryz.func20 _ z15 ⟨rfl, rfl⟩
 · rw [if_neg (fun h => h0 h.1)]
   generalize vAu a = v at *
   refine z0k Tryz.func20 (by kernel_rfl) rfl (by simp) ?_
   dsimp only [Tryz.f20]
   repeat' (first | (apply z0a; (first | refine z0n ?_| (apply z06; (refine z02 z3k rfl rfl ?_)) | (apply z0q; (first | refine z1j hv ?_| refine z1j hd ?_)) | (apply z1q; (refine z05 z3z ?_)))) | (apply z09; (first | refine z0m ?_ | apply z07 | refine z1r ?_| refine z52 rfl rfl (fun _ => ?_) (fun _ => ?_))) | (apply z08; (first | apply z0b | apply z00 | refine z1g ?_| apply z04 | refine zb4 rfl (fun _ => ?_) (fun _ => ?_))))
   all_goals try (exfalso; omega)
   all_goals exact z0j Tryz.func20 _ z15 ⟨rfl, rfl⟩
end Go.Proofs.YthdfkabdoidjfaaGreatDoor
