/- A part of the proof: A1, A2, A6, A7, A8, A9, A4. -/
import Derived.Test.YthdfkabdoidjfaaGreatDoorRt
import Derived.Test.YthdfkabdoidjfaaGreatDoorRy
import Derived.Test.YthdfkabdoidjfaaGreatDoorRc
import Derived.Test.YthdfkabdoidjfaaGreatDoorRr
import Derived.Test.YthdfkabdoidjfaaGreatDoorRz
import Derived.Test.YthdfkabdoidjfaaGreatDoorRv
set_option linter.all false
set_option linter.unusedVariables false
set_option linter.unusedSimpArgs false
namespace Go.Proofs.YthdfkabdoidjfaaGreatDoor
open Go.Ab Go.Ax
set_option maxHeartbeats 20000000
set_option maxRecDepth 100000
attribute [local irreducible] Run Ops Op1 z2f Val Tr z1f z2d NF Rel z47 z48
/-- automata as data -/
abbrev z2z (x : Arc) : List D := [z5u x.1, z5u x.2.1, z2x x.2.2]
abbrev z96 (l : List Arc) : D := .slice (l.map z2z)
abbrev z5x (l : List Arc) : List D := [z96 l]
abbrev zmf (F : List Bool) : D := .slice (F.map fun b => [zad b])
abbrev auc (a : Au) : List D := [zmf a.F, .slice (a.A.map z5x)]
abbrev auD (a : Au) : D := .agg (auc a)
/-- lengths that Go has -/
def zjk (a : Au) : Prop := a.F.length ≤ 9223372036854775807 ∧ a.A.length ≤ 9223372036854775807 ∧ ∀ l ∈ a.A, l.length ≤ 9223372036854775807
def zi9 (l : List Arc) (i : Nat) : Option Arc := if i = 0 then none else l[i - 1]?
theorem zbm (a : Au) (hf : zjk a) : z1f Tryz.prog 16 [.d (auD a)] (I .i64 (vAu a)) := by
 obtain ⟨F, A⟩ := a
 obtain ⟨f1, f2, f3⟩ := hf
 simp only at f1 f2 f3
 refine z1x fun H => ?_
 refine z0t Tryz.func16 (by kernel_rfl) rfl (by simp) ?_
 dsimp only [Tryz.f16]
 rw [vAu]
 simp only
 by_cases h1 : 256 < F.length
 · rw [if_pos h1]
   repeat' (first | (apply z0c; (first | refine z0v rfl (by decide) ?_ | (apply z09; (refine z00 (z0g rfl rfl rfl rfl) rfl rfl (by decide) ?_)) | (apply z0h; (refine z00 (z04 rfl rfl) rfl rfl (by decide) ?_)) | (apply z1a; (refine z00 (z1r rfl) rfl rfl (by decide) ?_)) | (apply z2b; (refine z07 (z2k rfl rfl rfl rfl rfl (by decide)) ?_)))) | (apply z0b; (first | refine z0u ?_ | apply z0a | refine z3v rfl rfl (by decide) ?_ | refine z1h rfl rfl (fun _ => ?_) (fun _ => ?_))) | (apply z0d; (first | apply z0e | apply z01 | refine z1d rfl ?_ | apply z06 | apply z02 | apply z03 | refine z1j rfl (fun _ => ?_) (fun _ => ?_) | refine z5d rfl (fun _ => ?_) (fun _ => ?_))))
   all_goals try (exfalso; simp only [List.length_map] at *; omega)
   all_goals exact z0r Tryz.func16 _ (z0p rfl rfl) ⟨rfl, rfl⟩
 rw [if_neg h1]
 by_cases h2 : F.length = 0 ∨ A.length ≠ F.length
 · rw [if_pos h2]
   repeat' (first | (apply z0c; (first | refine z0v rfl (by decide) ?_ | (apply z09; (refine z00 (z0g rfl rfl rfl rfl) rfl rfl (by decide) ?_)) | (apply z0h; (refine z00 (z04 rfl rfl) rfl rfl (by decide) ?_)) | (apply z1a; (refine z00 (z1r rfl) rfl rfl (by decide) ?_)) | (apply z2b; (refine z07 (z2k rfl rfl rfl rfl rfl (by decide)) ?_)))) | (apply z0b; (first | refine z0u ?_ | apply z0a | refine z3v rfl rfl (by decide) ?_ | refine z1h rfl rfl (fun _ => ?_) (fun _ => ?_))) | (apply z0d; (first | apply z0e | apply z01 | refine z1d rfl ?_ | apply z06 | apply z02 | apply z03 | refine z1j rfl (fun _ => ?_) (fun _ => ?_) | refine z5d rfl (fun _ => ?_) (fun _ => ?_))))
   all_goals try (exfalso; simp only [List.length_map] at *; omega)
   all_goals exact z0r Tryz.func16 _ (z0p rfl rfl) ⟨rfl, rfl⟩
 rw [if_neg h2]
 have e1 : A.length = F.length := by omega
 have e2 : 0 < F.length := by omega
 repeat' (first | (apply z0c; (first | refine z0v rfl (by decide) ?_ | (apply z09; (refine z00 (z0g rfl rfl rfl rfl) rfl rfl (by decide) ?_)) | (apply z0h; (refine z00 (z04 rfl rfl) rfl rfl (by decide) ?_)) | (apply z1a; (refine z00 (z1r rfl) rfl rfl (by decide) ?_)) | (apply z2b; (refine z07 (z2k rfl rfl rfl rfl rfl (by decide)) ?_)))) | (apply z0b; (first | refine z0u ?_ | apply z0a | refine z3v rfl rfl (by decide) ?_ | refine z1h rfl rfl (fun _ => ?_) (fun _ => ?_))) | (apply z0d; (first | apply z0e | apply z01 | refine z1d rfl ?_ | apply z06 | apply z02 | apply z03 | refine z1j rfl (fun _ => ?_) (fun _ => ?_) | refine z5d rfl (fun _ => ?_) (fun _ => ?_))))
 all_goals try (exfalso; simp only [List.length_map] at *; omega)
 refine z1q ?_
 refine z0o (z2r (fun q : Nat => ⟨99, [(1, .ptr (0, 1) 0), (3, I .i64 F.length), (25, .d (.slice (A.map z5x))), (26, I .i64 A.length), (27, I .i64 (q : Nat))], [(1, .box [.d (zmf F), .d (.slice (A.map z5x))])], H⟩) (fun q => q ≤ A.length ∧ zaf F.length (A.drop q) = zaf F.length A) (fun q => A.length - q) ?_ 0 ⟨Nat.zero_le _, rfl⟩) rfl rfl
 rintro i ⟨i1, i2⟩ ih
 by_cases hlt : i < A.length
 · obtain ⟨l, hl⟩ : ∃ l, A[i]? = some l := ⟨_, List.getElem?_eq_getElem hlt⟩
   have hlm := f3 l (List.mem_of_getElem? hl)
   rw [drop_cons hl, zaf] at i2
   repeat' (first | (apply z0c; (first | refine z0v rfl (by decide) ?_ | (apply z09; (refine z00 (z1i rfl rfl rfl) rfl rfl (by decide) ?_)) | (apply z0n; (refine z00 (z0i (ys := A.map z5x) rfl (by omega) (idx hl) rfl) rfl rfl (by decide) ?_)) | (apply z1a; (refine z00 (z1r rfl) rfl rfl (by decide) ?_)))) | (apply z0b; (first | refine z0u ?_ | apply z0a)) | (apply z0d; (first | apply z0e | apply z01 | apply z06 | apply z02 | refine z1j rfl (fun _ => ?_) (fun _ => ?_) | refine z0j rfl ?_)))
   all_goals try (exfalso; omega)
   refine z1q ?_
   refine z0o (z2r (fun q : Nat => ⟨99, [(1, .ptr (0, 1) 0), (3, I .i64 F.length), (25, .d (.slice (A.map z5x))), (26, I .i64 A.length), (27, I .i64 (i : Nat)), (5, .d (z96 l)), (31, .d (z96 l)), (32, I .i64 l.length), (33, I .i64 (q : Nat))], [(1, .box [.d (zmf F), .d (.slice (A.map z5x))])], H⟩) (fun q => q ≤ l.length ∧ zfq F.length (zi9 l q) (l.drop q) = zfq F.length none l ∧ ∀ y, zi9 l q = some y → 0 ≤ y.1 ∧ y.1 ≤ y.2.1 ∧ y.2.1 ≤ 1114111) (fun q => l.length - q) ?_ 0 ⟨Nat.zero_le _, rfl, by intro y hy; cases hy⟩) rfl rfl
   rintro k ⟨k1, k2, k3⟩ ihk
   by_cases hk : k < l.length
   · obtain ⟨x, hx⟩ : ∃ x, l[k]? = some x := ⟨_, List.getElem?_eq_getElem hk⟩
     have hpk : zi9 l (k + 1) = some x := by rw [zi9, if_neg (by omega)]; exact hx
     rw [drop_cons hx, zbk] at k2
     by_cases hb : znr F.length x = true
     · rw [if_pos hb] at k2
       rw [← k2, if_pos (by decide)] at i2
       rw [← i2]
       simp only [znr, Bool.or_eq_true, decide_eq_true_eq] at hb
       repeat' (first | (apply z0c; (first | refine z0v rfl (by decide) ?_ | (apply z09; (first | refine z00 (z0g rfl rfl rfl rfl) rfl rfl (by decide) ?_ | refine z00 (z0q rfl rfl) rfl rfl (by decide) ?_)) | (apply z0h; (refine z00 (z04 rfl rfl) rfl rfl (by decide) ?_)) | (apply z0n; (refine z00 (z0i (ys := l.map z2z) rfl (by omega) (idx hx) rfl) rfl rfl (by decide) ?_)) | (apply z18; (refine z00 (z11 (z1n (by omega) (by omega))) rfl rfl (by decide) ?_)) | (apply z0f; (refine z08 rfl rfl rfl rfl rfl rfl ?_)) | (apply z0l; (refine z07 (z0k rfl rfl (by decide)) ?_)))) | (apply z0b; (first | refine z0u ?_ | apply z0a)) | (apply z0d; (first | apply z0e | apply z01 | refine z0m rfl ?_ | apply z06 | apply z02 | apply z3c | apply z03 | refine z1j rfl (fun _ => ?_) (fun _ => ?_) | refine z0j rfl ?_)) | (apply z3b; (first | (apply z1k; refine z2a mix (by kernel_rfl) ?_) | refine z2e rfl rfl (by decide) ?_ | refine z3g rfl (by first | exact rfl | exact ⟨_, rfl, rfl, rfl⟩) (by decide) ?_ | (apply z0x; (refine z05 (z0g rfl rfl rfl rfl) (by first | exact rfl | exact ⟨_, rfl, rfl, rfl⟩) rfl rfl (by decide) ?_)) | (apply z0w; (refine z05 (z04 rfl rfl) (by first | exact rfl | exact ⟨_, rfl, rfl, rfl⟩) rfl rfl (by decide) ?_)) | (apply z2c; (refine z05 (z29 (z1n (by omega) (by omega))) (by first | exact rfl | exact ⟨_, rfl, rfl, rfl⟩) rfl rfl (by decide) ?_)) | (refine z1t rfl rfl (fun hg => ?_) (fun hg => ?_) <;> simp only [hg] <;> (try simp only [decide_eq_true_eq, decide_eq_false_iff_not, Bool.not_eq_true', Bool.not_eq_false'] at hg)))))
       all_goals try (exfalso; omega)
       all_goals exact z0r Tryz.func16 _ (z0p rfl rfl) ⟨rfl, rfl⟩
     · rw [if_neg hb] at k2
       simp only [znr, Bool.or_eq_true, decide_eq_true_eq, not_or] at hb
       cases k with
       | zero =>
        rw [show zi9 l 0 = none from rfl] at k2
        simp only at k2
        have ihk' := ihk 1 ⟨by omega, by rw [hpk]; exact k2, fun y hy => by rw [hpk] at hy; cases hy; omega⟩ (by omega)
        repeat' (first | (apply z0c; (first | refine z0v rfl (by decide) ?_ | (apply z09; (first | refine z00 (z0g rfl rfl rfl rfl) rfl rfl (by decide) ?_ | refine z00 (z0q rfl rfl) rfl rfl (by decide) ?_)) | (apply z0h; (refine z00 (z04 rfl rfl) rfl rfl (by decide) ?_)) | (apply z0n; (refine z00 (z0i (ys := l.map z2z) rfl (by omega) (idx hx) rfl) rfl rfl (by decide) ?_)) | (apply z18; (refine z00 (z11 (z1n (by omega) (by omega))) rfl rfl (by decide) ?_)) | (apply z0f; (refine z08 rfl rfl rfl rfl rfl rfl ?_)) | (apply z0l; (refine z07 (z0k rfl rfl (by decide)) ?_)))) | (apply z0b; (first | refine z0u ?_ | apply z0a)) | (apply z0d; (first | apply z0e | apply z01 | refine z0m rfl ?_ | apply z06 | apply z02 | apply z3c | apply z03 | refine z1j rfl (fun _ => ?_) (fun _ => ?_) | refine z0j rfl ?_)) | (apply z3b; (first | (apply z1k; refine z2a mix (by kernel_rfl) ?_) | refine z2e rfl rfl (by decide) ?_ | refine z3g rfl (by first | exact rfl | exact ⟨_, rfl, rfl, rfl⟩) (by decide) ?_)))
        all_goals try (exfalso; omega)
        all_goals exact z0o ihk' rfl rfl
       | succ k =>
        obtain ⟨y, hy⟩ : ∃ y, l[k]? = some y := ⟨_, List.getElem?_eq_getElem (by omega)⟩
        have hpy : zi9 l (k + 1) = some y := by rw [zi9, if_neg (by omega)]; exact hy
        have hyi : l[(((k + 1 : Nat) : Int) - 1).toNat]? = some y := by rw [show (((k + 1 : Nat) : Int) - 1).toNat = k by omega]; exact hy
        have hyr := k3 y hpy
        rw [hpy] at k2
        simp only at k2
        by_cases ho : zpi y x = true
        · rw [if_pos ho] at k2
          rw [← k2, if_pos (by decide)] at i2
          rw [← i2]
          simp only [zpi, Bool.or_eq_true, Bool.and_eq_true, decide_eq_true_eq] at ho
          repeat' (first | (apply z0c; (first | refine z0v rfl (by decide) ?_ | (apply z09; (first | refine z00 (z0g rfl rfl rfl rfl) rfl rfl (by decide) ?_ | refine z00 (z0q rfl rfl) rfl rfl (by decide) ?_)) | (apply z0h; (refine z00 (z04 rfl rfl) rfl rfl (by decide) ?_)) | (apply z0n; (refine z00 (z0i (ys := l.map z2z) rfl (by omega) (idx hx) rfl) rfl rfl (by decide) ?_)) | (apply z18; (refine z00 (z11 (z1n (by omega) (by omega))) rfl rfl (by decide) ?_)) | (apply z0f; (refine z08 rfl rfl rfl rfl rfl rfl ?_)) | (apply z0l; (refine z07 (z0k rfl rfl (by decide)) ?_)))) | (apply z0b; (first | refine z0u ?_ | apply z0a)) | (apply z0d; (first | apply z0e | apply z01 | refine z0m rfl ?_ | apply z06 | apply z02 | apply z3c | apply z03 | refine z1j rfl (fun _ => ?_) (fun _ => ?_) | refine z0j rfl ?_)) | (apply z3b; (first | (apply z1k; refine z2a mix (by kernel_rfl) ?_) | refine z2e rfl rfl (by decide) ?_ | refine z3g rfl (by first | exact rfl | exact ⟨_, rfl, rfl, rfl⟩) (by decide) ?_ | (apply z0x; (first | refine z05 (z0g rfl rfl rfl rfl) (by first | exact rfl | exact ⟨_, rfl, rfl, rfl⟩) rfl rfl (by decide) ?_ | refine z05 (z1i rfl rfl rfl) (by first | exact rfl | exact ⟨_, rfl, rfl, rfl⟩) rfl rfl (by decide) ?_)) | (apply z0w; (first | refine z05 (z04 rfl rfl) (by first | exact rfl | exact ⟨_, rfl, rfl, rfl⟩) rfl rfl (by decide) ?_ | refine z05 (z5o rfl rfl) (by first | exact rfl | exact ⟨_, rfl, rfl, rfl⟩) rfl rfl (by decide) ?_)) | (apply z1g; (refine z05 (z0i (ys := l.map z2z) rfl (by omega) (zdt hyi) rfl) (by first | exact rfl | exact ⟨_, rfl, rfl, rfl⟩) rfl rfl (by decide) ?_)) | (apply z2c; (first | refine z05 (z11 (z99 (by omega) (by omega))) (by first | exact rfl | exact ⟨_, rfl, rfl, rfl⟩) rfl rfl (by decide) ?_ | refine z05 (z29 (z1n (by omega) (by omega))) (by first | exact rfl | exact ⟨_, rfl, rfl, rfl⟩) rfl rfl (by decide) ?_)) | (refine z1t rfl rfl (fun hg => ?_) (fun hg => ?_) <;> simp only [hg] <;> (try simp only [decide_eq_true_eq, decide_eq_false_iff_not, Bool.not_eq_true', Bool.not_eq_false'] at hg)))))
          all_goals try (exfalso; omega)
          all_goals exact z0r Tryz.func16 _ (z0p rfl rfl) ⟨rfl, rfl⟩
        · rw [if_neg ho] at k2
          simp only [zpi, Bool.or_eq_true, Bool.and_eq_true, decide_eq_true_eq, not_or, not_and] at ho
          have ihk' := ihk (k + 2) ⟨by omega, by rw [hpk]; exact k2, fun y hy => by rw [hpk] at hy; cases hy; omega⟩ (by omega)
          repeat' (first | (apply z0c; (first | refine z0v rfl (by decide) ?_ | (apply z09; (first | refine z00 (z0g rfl rfl rfl rfl) rfl rfl (by decide) ?_ | refine z00 (z0q rfl rfl) rfl rfl (by decide) ?_)) | (apply z0h; (refine z00 (z04 rfl rfl) rfl rfl (by decide) ?_)) | (apply z0n; (refine z00 (z0i (ys := l.map z2z) rfl (by omega) (idx hx) rfl) rfl rfl (by decide) ?_)) | (apply z18; (refine z00 (z11 (z1n (by omega) (by omega))) rfl rfl (by decide) ?_)) | (apply z0f; (refine z08 rfl rfl rfl rfl rfl rfl ?_)) | (apply z0l; (refine z07 (z0k rfl rfl (by decide)) ?_)))) | (apply z0b; (first | refine z0u ?_ | apply z0a)) | (apply z0d; (first | apply z0e | apply z01 | refine z0m rfl ?_ | apply z06 | apply z02 | apply z3c | apply z03 | refine z1j rfl (fun _ => ?_) (fun _ => ?_) | refine z0j rfl ?_)) | (apply z3b; (first | (apply z1k; refine z2a mix (by kernel_rfl) ?_) | refine z2e rfl rfl (by decide) ?_ | refine z3g rfl (by first | exact rfl | exact ⟨_, rfl, rfl, rfl⟩) (by decide) ?_ | (apply z0x; (first | refine z05 (z0g rfl rfl rfl rfl) (by first | exact rfl | exact ⟨_, rfl, rfl, rfl⟩) rfl rfl (by decide) ?_ | refine z05 (z1i rfl rfl rfl) (by first | exact rfl | exact ⟨_, rfl, rfl, rfl⟩) rfl rfl (by decide) ?_)) | (apply z0w; (first | refine z05 (z04 rfl rfl) (by first | exact rfl | exact ⟨_, rfl, rfl, rfl⟩) rfl rfl (by decide) ?_ | refine z05 (z5o rfl rfl) (by first | exact rfl | exact ⟨_, rfl, rfl, rfl⟩) rfl rfl (by decide) ?_)) | (apply z1g; (refine z05 (z0i (ys := l.map z2z) rfl (by omega) (zdt hyi) rfl) (by first | exact rfl | exact ⟨_, rfl, rfl, rfl⟩) rfl rfl (by decide) ?_)) | (apply z2c; (first | refine z05 (z11 (z99 (by omega) (by omega))) (by first | exact rfl | exact ⟨_, rfl, rfl, rfl⟩) rfl rfl (by decide) ?_ | refine z05 (z29 (z1n (by omega) (by omega))) (by first | exact rfl | exact ⟨_, rfl, rfl, rfl⟩) rfl rfl (by decide) ?_)) | (refine z1t rfl rfl (fun hg => ?_) (fun hg => ?_) <;> simp only [hg] <;> (try simp only [decide_eq_true_eq, decide_eq_false_iff_not, Bool.not_eq_true', Bool.not_eq_false'] at hg)))))
          all_goals try (exfalso; omega)
          all_goals exact z0o ihk' rfl rfl
   · obtain rfl : k = l.length := by omega
     rw [List.drop_length, zfq] at k2
     rw [← k2, if_neg (by decide)] at i2
     repeat' (first | (apply z0c; (first | refine z0v rfl (by decide) ?_ | (apply z18; (refine z00 (z11 (z1n (by omega) (by omega))) rfl rfl (by decide) ?_)))) | (apply z0b; (first | refine z0u ?_ | apply z0a)) | (apply z0d; (first | apply z0e | apply z01 | apply z06 | apply z02 | apply z03 | refine z1j rfl (fun _ => ?_) (fun _ => ?_) | refine z0j rfl ?_)))
     all_goals try (exfalso; omega)
     all_goals exact z0o (ih (i + 1) ⟨by omega, i2⟩ (by omega)) rfl rfl
 · obtain rfl : i = A.length := by omega
   rw [List.drop_length, zaf] at i2
   rw [← i2]
   repeat' (first | (apply z0c; (refine z0v rfl (by decide) ?_)) | (apply z0b; (first | refine z0u ?_ | apply z0a)) | (apply z0d; (first | apply z0e | apply z01 | apply z06 | apply z02 | refine z1j rfl (fun _ => ?_) (fun _ => ?_) | refine z0j rfl ?_)))
   all_goals try (exfalso; omega)
   all_goals exact z0r Tryz.func16 _ (z0p rfl rfl) ⟨rfl, rfl⟩
theorem zpm (a : Au) (hf : zjk a) : z1f Tryz.prog 17 [.d (auD a)] (I .i64 (vAu a)) := by
 obtain ⟨F, A⟩ := a
 obtain ⟨f1, f2, f3⟩ := hf
 simp only at f1 f2 f3
 refine z1x fun H => ?_
 refine z0t Tryz.func17 (by kernel_rfl) rfl (by simp) ?_
 dsimp only [Tryz.f17]
 rw [vAu]
 simp only
 by_cases h1 : 256 < F.length
 · rw [if_pos h1]
   repeat' (first | (apply z0c; (first | refine z0v rfl (by decide) ?_ | (apply z09; (refine z00 (z0g rfl rfl rfl rfl) rfl rfl (by decide) ?_)) | (apply z0h; (refine z00 (z04 rfl rfl) rfl rfl (by decide) ?_)) | (apply z1a; (refine z00 (z1r rfl) rfl rfl (by decide) ?_)) | (apply z2b; (refine z07 (z2k rfl rfl rfl rfl rfl (by decide)) ?_)))) | (apply z0b; (first | refine z0u ?_ | apply z0a | refine z3v rfl rfl (by decide) ?_ | refine z1h rfl rfl (fun _ => ?_) (fun _ => ?_))) | (apply z0d; (first | apply z0e | apply z01 | refine z1d rfl ?_ | apply z06 | apply z02 | refine z1j rfl (fun _ => ?_) (fun _ => ?_) | refine z5d rfl (fun _ => ?_) (fun _ => ?_))))
   all_goals try (exfalso; simp only [List.length_map] at *; omega)
   all_goals exact z0r Tryz.func17 _ (z0p rfl rfl) ⟨rfl, rfl⟩
 rw [if_neg h1]
 by_cases h2 : F.length = 0 ∨ A.length ≠ F.length
 · rw [if_pos h2]
   repeat' (first | (apply z0c; (first | refine z0v rfl (by decide) ?_ | (apply z09; (refine z00 (z0g rfl rfl rfl rfl) rfl rfl (by decide) ?_)) | (apply z0h; (refine z00 (z04 rfl rfl) rfl rfl (by decide) ?_)) | (apply z1a; (refine z00 (z1r rfl) rfl rfl (by decide) ?_)) | (apply z2b; (refine z07 (z2k rfl rfl rfl rfl rfl (by decide)) ?_)))) | (apply z0b; (first | refine z0u ?_ | apply z0a | refine z3v rfl rfl (by decide) ?_ | refine z1h rfl rfl (fun _ => ?_) (fun _ => ?_))) | (apply z0d; (first | apply z0e | apply z01 | refine z1d rfl ?_ | apply z06 | apply z02 | refine z1j rfl (fun _ => ?_) (fun _ => ?_) | refine z5d rfl (fun _ => ?_) (fun _ => ?_))))
   all_goals try (exfalso; simp only [List.length_map] at *; omega)
   all_goals exact z0r Tryz.func17 _ (z0p rfl rfl) ⟨rfl, rfl⟩
 rw [if_neg h2]
 have e1 : A.length = F.length := by omega
 have e2 : 0 < F.length := by omega
 repeat' (first | (apply z0c; (first | refine z0v rfl (by decide) ?_ | (apply z09; (refine z00 (z0g rfl rfl rfl rfl) rfl rfl (by decide) ?_)) | (apply z0h; (refine z00 (z04 rfl rfl) rfl rfl (by decide) ?_)) | (apply z1a; (refine z00 (z1r rfl) rfl rfl (by decide) ?_)) | (apply z2b; (refine z07 (z2k rfl rfl rfl rfl rfl (by decide)) ?_)))) | (apply z0b; (first | refine z0u ?_ | apply z0a | refine z3v rfl rfl (by decide) ?_ | refine z1h rfl rfl (fun _ => ?_) (fun _ => ?_))) | (apply z0d; (first | apply z0e | apply z01 | refine z1d rfl ?_ | apply z06 | apply z02 | refine z1j rfl (fun _ => ?_) (fun _ => ?_) | refine z5d rfl (fun _ => ?_) (fun _ => ?_))))
 all_goals try (exfalso; simp only [List.length_map] at *; omega)
 refine z1q ?_
 refine z0o (z2r (fun q : Nat => ⟨105, [(1, .ptr (0, 1) 0), (3, I .i64 F.length), (23, .d (.slice (A.map z5x))), (24, I .i64 A.length), (25, I .i64 (q : Nat))], [(1, .box [.d (zmf F), .d (.slice (A.map z5x))])], H⟩) (fun q => q ≤ A.length ∧ zaf F.length (A.drop q) = zaf F.length A) (fun q => A.length - q) ?_ 0 ⟨Nat.zero_le _, rfl⟩) rfl rfl
 rintro i ⟨i1, i2⟩ ih
 by_cases hlt : i < A.length
 · obtain ⟨l, hl⟩ : ∃ l, A[i]? = some l := ⟨_, List.getElem?_eq_getElem hlt⟩
   have hlm := f3 l (List.mem_of_getElem? hl)
   rw [drop_cons hl, zaf] at i2
   repeat' (first | (apply z0c; (first | refine z0v rfl (by decide) ?_ | (apply z09; (refine z00 (z1i rfl rfl rfl) rfl rfl (by decide) ?_)) | (apply z0n; (refine z00 (z0i (ys := A.map z5x) rfl (by omega) (idx hl) rfl) rfl rfl (by decide) ?_)) | (apply z1a; (refine z00 (z1r rfl) rfl rfl (by decide) ?_)))) | (apply z0b; (first | refine z0u ?_ | apply z0a)) | (apply z0d; (first | apply z0e | apply z01 | apply z06 | apply z02 | refine z1j rfl (fun _ => ?_) (fun _ => ?_) | refine z0j rfl ?_)))
   all_goals try (exfalso; omega)
   refine z1q ?_
   refine z0o (z2r (fun q : Nat => ⟨105, [(1, .ptr (0, 1) 0), (3, I .i64 F.length), (23, .d (.slice (A.map z5x))), (24, I .i64 A.length), (25, I .i64 (i : Nat)), (5, .d (z96 l)), (29, .d (z96 l)), (30, I .i64 l.length), (31, I .i64 (q : Nat))], [(1, .box [.d (zmf F), .d (.slice (A.map z5x))])], H⟩) (fun q => q ≤ l.length ∧ zfq F.length (zi9 l q) (l.drop q) = zfq F.length none l ∧ ∀ y, zi9 l q = some y → 0 ≤ y.1 ∧ y.1 ≤ y.2.1 ∧ y.2.1 ≤ 1114111) (fun q => l.length - q) ?_ 0 ⟨Nat.zero_le _, rfl, by intro y hy; cases hy⟩) rfl rfl
   rintro k ⟨k1, k2, k3⟩ ihk
   by_cases hk : k < l.length
   · obtain ⟨x, hx⟩ : ∃ x, l[k]? = some x := ⟨_, List.getElem?_eq_getElem hk⟩
     have hpk : zi9 l (k + 1) = some x := by rw [zi9, if_neg (by omega)]; exact hx
     rw [drop_cons hx, zbk] at k2
     by_cases hb : znr F.length x = true
     · rw [if_pos hb] at k2
       rw [← k2, if_pos (by decide)] at i2
       rw [← i2]
       simp only [znr, Bool.or_eq_true, decide_eq_true_eq] at hb
       repeat' (first | (apply z0c; (first | refine z0v rfl (by decide) ?_ | (apply z09; (first | refine z00 (z0g rfl rfl rfl rfl) rfl rfl (by decide) ?_ | refine z00 (z0q rfl rfl) rfl rfl (by decide) ?_)) | (apply z0h; (refine z00 (z04 rfl rfl) rfl rfl (by decide) ?_)) | (apply z0n; (refine z00 (z0i (ys := l.map z2z) rfl (by omega) (idx hx) rfl) rfl rfl (by decide) ?_)) | (apply z18; (refine z00 (z11 (z1n (by omega) (by omega))) rfl rfl (by decide) ?_)) | (apply z0f; (refine z08 rfl rfl rfl rfl rfl rfl ?_)) | (apply z0l; (refine z07 (z0k rfl rfl (by decide)) ?_)))) | (apply z0b; (first | refine z0u ?_ | apply z0a | refine z3v rfl rfl (by decide) ?_ | refine z1h rfl rfl (fun _ => ?_) (fun _ => ?_))) | (apply z0d; (first | apply z0e | apply z01 | refine z1d rfl ?_ | refine z0m rfl ?_ | apply z06 | apply z02 | apply z3c | apply z03 | refine z1j rfl (fun _ => ?_) (fun _ => ?_) | refine z0j rfl ?_)) | (apply z3b; (first | (apply z1k; refine z2a mix (by kernel_rfl) ?_) | refine z2e rfl rfl (by decide) ?_ | refine z3g rfl (by first | exact rfl | exact ⟨_, rfl, rfl, rfl⟩) (by decide) ?_ | (apply z0x; (refine z05 (z0g rfl rfl rfl rfl) (by first | exact rfl | exact ⟨_, rfl, rfl, rfl⟩) rfl rfl (by decide) ?_)) | (apply z0w; (refine z05 (z04 rfl rfl) (by first | exact rfl | exact ⟨_, rfl, rfl, rfl⟩) rfl rfl (by decide) ?_)) | (apply z2c; (refine z05 (z29 (z1n (by omega) (by omega))) (by first | exact rfl | exact ⟨_, rfl, rfl, rfl⟩) rfl rfl (by decide) ?_)) | (refine z1t rfl rfl (fun hg => ?_) (fun hg => ?_) <;> simp only [hg] <;> (try simp only [decide_eq_true_eq, decide_eq_false_iff_not, Bool.not_eq_true', Bool.not_eq_false'] at hg)))))
       all_goals try (exfalso; omega)
       all_goals exact z0r Tryz.func17 _ (z0p rfl rfl) ⟨rfl, rfl⟩
     · rw [if_neg hb] at k2
       simp only [znr, Bool.or_eq_true, decide_eq_true_eq, not_or] at hb
       cases k with
       | zero =>
        rw [show zi9 l 0 = none from rfl] at k2
        simp only at k2
        have ihk' := ihk 1 ⟨by omega, by rw [hpk]; exact k2, fun y hy => by rw [hpk] at hy; cases hy; omega⟩ (by omega)
        repeat' (first | (apply z0c; (first | refine z0v rfl (by decide) ?_ | (apply z09; (first | refine z00 (z0g rfl rfl rfl rfl) rfl rfl (by decide) ?_ | refine z00 (z0q rfl rfl) rfl rfl (by decide) ?_)) | (apply z0h; (refine z00 (z04 rfl rfl) rfl rfl (by decide) ?_)) | (apply z0n; (refine z00 (z0i (ys := l.map z2z) rfl (by omega) (idx hx) rfl) rfl rfl (by decide) ?_)) | (apply z18; (refine z00 (z11 (z1n (by omega) (by omega))) rfl rfl (by decide) ?_)) | (apply z0f; (refine z08 rfl rfl rfl rfl rfl rfl ?_)) | (apply z0l; (refine z07 (z0k rfl rfl (by decide)) ?_)))) | (apply z0b; (first | refine z0u ?_ | apply z0a | refine z3v rfl rfl (by decide) ?_ | refine z1h rfl rfl (fun _ => ?_) (fun _ => ?_))) | (apply z0d; (first | apply z0e | apply z01 | refine z1d rfl ?_ | refine z0m rfl ?_ | apply z06 | apply z02 | apply z3c | apply z03 | refine z1j rfl (fun _ => ?_) (fun _ => ?_) | refine z0j rfl ?_)) | (apply z3b; (first | (apply z1k; refine z2a mix (by kernel_rfl) ?_) | refine z2e rfl rfl (by decide) ?_ | refine z3g rfl (by first | exact rfl | exact ⟨_, rfl, rfl, rfl⟩) (by decide) ?_)))
        all_goals try (exfalso; omega)
        all_goals exact z0o ihk' rfl rfl
       | succ k =>
        obtain ⟨y, hy⟩ : ∃ y, l[k]? = some y := ⟨_, List.getElem?_eq_getElem (by omega)⟩
        have hpy : zi9 l (k + 1) = some y := by rw [zi9, if_neg (by omega)]; exact hy
        have hyi : l[(((k + 1 : Nat) : Int) - 1).toNat]? = some y := by rw [show (((k + 1 : Nat) : Int) - 1).toNat = k by omega]; exact hy
        have hyr := k3 y hpy
        rw [hpy] at k2
        simp only at k2
        by_cases ho : zpi y x = true
        · rw [if_pos ho] at k2
          rw [← k2, if_pos (by decide)] at i2
          rw [← i2]
          simp only [zpi, Bool.or_eq_true, Bool.and_eq_true, decide_eq_true_eq] at ho
          repeat' (first | (apply z0c; (first | refine z0v rfl (by decide) ?_ | (apply z09; (first | refine z00 (z0g rfl rfl rfl rfl) rfl rfl (by decide) ?_ | refine z00 (z0q rfl rfl) rfl rfl (by decide) ?_)) | (apply z0h; (refine z00 (z04 rfl rfl) rfl rfl (by decide) ?_)) | (apply z0n; (refine z00 (z0i (ys := l.map z2z) rfl (by omega) (idx hx) rfl) rfl rfl (by decide) ?_)) | (apply z18; (refine z00 (z11 (z1n (by omega) (by omega))) rfl rfl (by decide) ?_)) | (apply z0f; (refine z08 rfl rfl rfl rfl rfl rfl ?_)) | (apply z0l; (refine z07 (z0k rfl rfl (by decide)) ?_)))) | (apply z0b; (first | refine z0u ?_ | apply z0a | refine z3v rfl rfl (by decide) ?_ | refine z1h rfl rfl (fun _ => ?_) (fun _ => ?_))) | (apply z0d; (first | apply z0e | apply z01 | refine z1d rfl ?_ | refine z0m rfl ?_ | apply z06 | apply z02 | apply z3c | apply z03 | refine z1j rfl (fun _ => ?_) (fun _ => ?_) | refine z0j rfl ?_)) | (apply z3b; (first | (apply z1k; refine z2a mix (by kernel_rfl) ?_) | refine z2e rfl rfl (by decide) ?_ | refine z3g rfl (by first | exact rfl | exact ⟨_, rfl, rfl, rfl⟩) (by decide) ?_ | (apply z0x; (first | refine z05 (z0g rfl rfl rfl rfl) (by first | exact rfl | exact ⟨_, rfl, rfl, rfl⟩) rfl rfl (by decide) ?_ | refine z05 (z1i rfl rfl rfl) (by first | exact rfl | exact ⟨_, rfl, rfl, rfl⟩) rfl rfl (by decide) ?_)) | (apply z0w; (first | refine z05 (z04 rfl rfl) (by first | exact rfl | exact ⟨_, rfl, rfl, rfl⟩) rfl rfl (by decide) ?_ | refine z05 (z5o rfl rfl) (by first | exact rfl | exact ⟨_, rfl, rfl, rfl⟩) rfl rfl (by decide) ?_)) | (apply z1g; (refine z05 (z0i (ys := l.map z2z) rfl (by omega) (zdt hyi) rfl) (by first | exact rfl | exact ⟨_, rfl, rfl, rfl⟩) rfl rfl (by decide) ?_)) | (apply z2c; (first | refine z05 (z11 (z99 (by omega) (by omega))) (by first | exact rfl | exact ⟨_, rfl, rfl, rfl⟩) rfl rfl (by decide) ?_ | refine z05 (z29 (z1n (by omega) (by omega))) (by first | exact rfl | exact ⟨_, rfl, rfl, rfl⟩) rfl rfl (by decide) ?_)) | (refine z1t rfl rfl (fun hg => ?_) (fun hg => ?_) <;> simp only [hg] <;> (try simp only [decide_eq_true_eq, decide_eq_false_iff_not, Bool.not_eq_true', Bool.not_eq_false'] at hg)))))
          all_goals try (exfalso; omega)
          all_goals exact z0r Tryz.func17 _ (z0p rfl rfl) ⟨rfl, rfl⟩
        · rw [if_neg ho] at k2
          simp only [zpi, Bool.or_eq_true, Bool.and_eq_true, decide_eq_true_eq, not_or, not_and] at ho
          have ihk' := ihk (k + 2) ⟨by omega, by rw [hpk]; exact k2, fun y hy => by rw [hpk] at hy; cases hy; omega⟩ (by omega)
          repeat' (first | (apply z0c; (first | refine z0v rfl (by decide) ?_ | (apply z09; (first | refine z00 (z0g rfl rfl rfl rfl) rfl rfl (by decide) ?_ | refine z00 (z0q rfl rfl) rfl rfl (by decide) ?_)) | (apply z0h; (refine z00 (z04 rfl rfl) rfl rfl (by decide) ?_)) | (apply z0n; (refine z00 (z0i (ys := l.map z2z) rfl (by omega) (idx hx) rfl) rfl rfl (by decide) ?_)) | (apply z18; (refine z00 (z11 (z1n (by omega) (by omega))) rfl rfl (by decide) ?_)) | (apply z0f; (refine z08 rfl rfl rfl rfl rfl rfl ?_)) | (apply z0l; (refine z07 (z0k rfl rfl (by decide)) ?_)))) | (apply z0b; (first | refine z0u ?_ | apply z0a | refine z3v rfl rfl (by decide) ?_ | refine z1h rfl rfl (fun _ => ?_) (fun _ => ?_))) | (apply z0d; (first | apply z0e | apply z01 | refine z1d rfl ?_ | refine z0m rfl ?_ | apply z06 | apply z02 | apply z3c | apply z03 | refine z1j rfl (fun _ => ?_) (fun _ => ?_) | refine z0j rfl ?_)) | (apply z3b; (first | (apply z1k; refine z2a mix (by kernel_rfl) ?_) | refine z2e rfl rfl (by decide) ?_ | refine z3g rfl (by first | exact rfl | exact ⟨_, rfl, rfl, rfl⟩) (by decide) ?_ | (apply z0x; (first | refine z05 (z0g rfl rfl rfl rfl) (by first | exact rfl | exact ⟨_, rfl, rfl, rfl⟩) rfl rfl (by decide) ?_ | refine z05 (z1i rfl rfl rfl) (by first | exact rfl | exact ⟨_, rfl, rfl, rfl⟩) rfl rfl (by decide) ?_)) | (apply z0w; (first | refine z05 (z04 rfl rfl) (by first | exact rfl | exact ⟨_, rfl, rfl, rfl⟩) rfl rfl (by decide) ?_ | refine z05 (z5o rfl rfl) (by first | exact rfl | exact ⟨_, rfl, rfl, rfl⟩) rfl rfl (by decide) ?_)) | (apply z1g; (refine z05 (z0i (ys := l.map z2z) rfl (by omega) (zdt hyi) rfl) (by first | exact rfl | exact ⟨_, rfl, rfl, rfl⟩) rfl rfl (by decide) ?_)) | (apply z2c; (first | refine z05 (z11 (z99 (by omega) (by omega))) (by first | exact rfl | exact ⟨_, rfl, rfl, rfl⟩) rfl rfl (by decide) ?_ | refine z05 (z29 (z1n (by omega) (by omega))) (by first | exact rfl | exact ⟨_, rfl, rfl, rfl⟩) rfl rfl (by decide) ?_)) | (refine z1t rfl rfl (fun hg => ?_) (fun hg => ?_) <;> simp only [hg] <;> (try simp only [decide_eq_true_eq, decide_eq_false_iff_not, Bool.not_eq_true', Bool.not_eq_false'] at hg)))))
          all_goals try (exfalso; omega)
          all_goals exact z0o ihk' rfl rfl
   · obtain rfl : k = l.length := by omega
     rw [List.drop_length, zfq] at k2
     rw [← k2, if_neg (by decide)] at i2
     repeat' (first | (apply z0c; (first | refine z0v rfl (by decide) ?_ | (apply z18; (refine z00 (z11 (z1n (by omega) (by omega))) rfl rfl (by decide) ?_)))) | (apply z0b; (first | refine z0u ?_ | apply z0a)) | (apply z0d; (first | apply z0e | apply z01 | apply z06 | apply z02 | apply z03 | refine z1j rfl (fun _ => ?_) (fun _ => ?_) | refine z0j rfl ?_)))
     all_goals try (exfalso; omega)
     all_goals exact z0o (ih (i + 1) ⟨by omega, i2⟩ (by omega)) rfl rfl
 · obtain rfl : i = A.length := by omega
   rw [List.drop_length, zaf] at i2
   rw [← i2]
   repeat' (first | (apply z0c; (refine z0v rfl (by decide) ?_)) | (apply z0b; (first | refine z0u ?_ | apply z0a)) | (apply z0d; (first | apply z0e | apply z01 | apply z06 | apply z02 | refine z1j rfl (fun _ => ?_) (fun _ => ?_) | refine z0j rfl ?_)))
   all_goals try (exfalso; omega)
   all_goals exact z0r Tryz.func17 _ (z0p rfl rfl) ⟨rfl, rfl⟩
end Go.Proofs.YthdfkabdoidjfaaGreatDoor
namespace Go.Proofs.YthdfkabdoidjfaaGreatDoor
open Go.Ab Go.Ax
set_option maxHeartbeats 20000000
set_option maxRecDepth 100000
attribute [local irreducible] Run Ops Op1 z2f Val Tr z1f z2d NF Rel z47 z48
def zu2 (a b : Int) : Int := if a < b then -1 else if b < a then 1 else 0
theorem zd4 (a : Int) : z1f Tryz.prog 112 [I .i32 a] (B false) := by
 refine z1x fun H => ?_
 refine z0t Tryz.func112 (by kernel_rfl) rfl (by simp) ?_
 dsimp only [Tryz.f112]
 repeat' (first | (apply z0c; (refine z0v rfl (by decide) ?_)) | (apply z0b; (first | refine z0u ?_ | apply z0a)) | (apply z0d; (first | apply z0e | apply z01)))
 all_goals try (exfalso; omega)
 all_goals exact z0r Tryz.func112 _ (z0p rfl (by simp only [ne_eq, not_true_eq_false, decide_false]; rfl)) ⟨rfl, rfl⟩
theorem zlh (a b : Int) : z1f Tryz.prog 76 [I .i32 a, I .i32 b] (I .i64 (zu2 a b)) := by
 refine z1x fun H => ?_
 have h1 := zd4 a
 have h2 := zd4 b
 refine z0t Tryz.func76 (by kernel_rfl) rfl (by simp) ?_
 dsimp only [Tryz.f76]
 rw [zu2]
 by_cases c1 : a < b
 · rw [if_pos c1]
   repeat' (first | (apply z0c; (first | refine z0v rfl (by decide) ?_ | (apply z16; (first | refine z3l h1 rfl (by decide) ?_ | refine z3l h2 rfl (by decide) ?_)))) | (apply z0b; (first | refine z0u ?_ | apply z0a)) | (apply z0d; (first | apply z0e | apply z01 | refine z0m rfl ?_ | apply z06 | refine z1j rfl (fun _ => ?_) (fun _ => ?_))))
   all_goals try (exfalso; omega)
   all_goals exact z0r Tryz.func76 _ (z0p rfl rfl) ⟨rfl, rfl⟩
 · rw [if_neg c1]
   by_cases c2 : b < a
   · rw [if_pos c2]
     repeat' (first | (apply z0c; (first | refine z0v rfl (by decide) ?_ | (apply z16; (first | refine z3l h1 rfl (by decide) ?_ | refine z3l h2 rfl (by decide) ?_)))) | (apply z0b; (first | refine z0u ?_ | apply z0a)) | (apply z0d; (first | apply z0e | apply z01 | refine z0m rfl ?_ | apply z06 | refine z1j rfl (fun _ => ?_) (fun _ => ?_))))
     all_goals try (exfalso; omega)
     all_goals exact z0r Tryz.func76 _ (z0p rfl rfl) ⟨rfl, rfl⟩
   · rw [if_neg c2]
     repeat' (first | (apply z0c; (first | refine z0v rfl (by decide) ?_ | (apply z16; (first | refine z3l h1 rfl (by decide) ?_ | refine z3l h2 rfl (by decide) ?_)))) | (apply z0b; (first | refine z0u ?_ | apply z0a)) | (apply z0d; (first | apply z0e | apply z01 | refine z0m rfl ?_ | apply z06 | refine z1j rfl (fun _ => ?_) (fun _ => ?_))))
     all_goals try (exfalso; omega)
     all_goals exact z0r Tryz.func76 _ (z0p rfl rfl) ⟨rfl, rfl⟩
theorem zn4 (x : Arc) (c : Int) : z1f Tryz.prog 75 [.d (.agg (z2z x)), I .i32 c] (I .i64 (zu2 x.2.1 c)) := by
 refine z1x fun H => ?_
 have h1 := zlh x.2.1 c
 refine z0t Tryz.func75 (by kernel_rfl) rfl (by simp) ?_
 dsimp only [Tryz.f75]
 repeat' (first | (apply z0c; (first | refine z0v rfl (by decide) ?_ | (apply z09; (refine z00 (z0g rfl rfl rfl rfl) rfl rfl (by decide) ?_)) | (apply z0h; (refine z00 (z04 rfl rfl) rfl rfl (by decide) ?_)) | (apply z16; (refine z3l h1 rfl (by decide) ?_)) | (apply z2b; (refine z07 (z2k rfl rfl rfl rfl rfl (by decide)) ?_)))) | (apply z0b; (first | refine z0u ?_ | apply z0a)) | (apply z0d; (first | apply z0e | apply z01)))
 all_goals try (exfalso; omega)
 all_goals exact z0r Tryz.func75 _ (z0p rfl rfl) ⟨rfl, rfl⟩
theorem zmi (l : List Arc) (hl : l.length ≤ 4611686018427387904) (ho : okA none l) (c : Int) : z1f Tryz.prog 74 [.d (z96 l), I .i32 c, .fn (.func 75) [] []] (.tup [I .i64 (ze7 c l : Nat), B (match l[ze7 c l]? with | some x => decide (x.2.1 = c) | none => false)]) := by
 refine z1x fun H => ?_
 have hmono := zhn ho
 refine z0t Tryz.func74 (by kernel_rfl) rfl (by simp) ?_
 dsimp only [Tryz.f74]
 repeat' (first | (apply z0c; (first | refine z0v rfl (by decide) ?_ | (apply z1a; (refine z00 (z1r rfl) rfl rfl (by decide) ?_)))) | (apply z0b; (first | refine z0u ?_ | apply z0a)) | (apply z0d; (first | apply z0e | apply z01 | apply z02)))
 all_goals try (exfalso; omega)
 refine z1q ?_
 refine z0o (z2r (fun q : Nat × Nat => ⟨49, [(0, .d (z96 l)), (1, I .i32 c), (2, .fn (.func 75) [] []), (8, I .i64 l.length), (9, I .i64 (q.1 : Nat)), (10, I .i64 (q.2 : Nat))], [], H⟩) (fun q => q.1 ≤ q.2 ∧ q.2 ≤ l.length ∧ (∀ p x, p < q.1 → l[p]? = some x → x.2.1 < c) ∧ ∀ p x, q.2 ≤ p → l[p]? = some x → ¬ x.2.1 < c) (fun q => q.2 - q.1) ?_ (0, l.length) ⟨Nat.zero_le _, Nat.le_refl _, fun p x h => absurd h (Nat.not_lt_zero _), fun p x h1 h2 => by have := (List.getElem?_eq_some_iff.1 h2).1; omega⟩) rfl rfl
 rintro ⟨i, j⟩ ⟨i1, i2, i3, i4⟩ ih
 simp only at i1 i2 i3 i4 ih ⊢
 by_cases hlt : i < j
 · have hh : ((((i : Nat) : Int) + ((j : Nat) : Int)) / 2) = (((i + j) / 2 : Nat) : Int) := by omega
   obtain ⟨x, hx⟩ : ∃ x, l[(i + j) / 2]? = some x := ⟨_, List.getElem?_eq_getElem (by omega)⟩
   have hxi : l[((((i : Nat) : Int) + ((j : Nat) : Int)) / 2).toNat]? = some x := by rw [hh, Int.toNat_natCast]; exact hx
   have hc := zn4 x c
   rw [zu2] at hc
   by_cases hlo : x.2.1 < c
   · rw [if_pos hlo] at hc
     have ih' := ih ((i + j) / 2 + 1, j) ⟨by simp only; omega, i2, fun p y hp hy => by have := hmono p _ y x (by simp only at hp; omega) hy hx; omega, i4⟩ (by simp only; omega)
     rw [show (((i + j) / 2 + 1 : Nat) : Int) = (((i : Nat) : Int) + ((j : Nat) : Int)) / 2 + 1 by omega] at ih'
     repeat' (first | (apply z0c; (first | refine z0v rfl (by decide) ?_ | (apply z09; (refine z00 (z0q rfl rfl) rfl rfl (by decide) ?_)) | (apply z0n; (refine z00 (z0i (ys := l.map z2z) rfl (by omega) (zdt hxi) rfl) rfl rfl (by decide) ?_)) | (apply z18; (first | refine z00 (zf4 (by omega)) rfl rfl (by decide) ?_ | refine z00 (z11 (z1n (by omega) (by omega))) rfl rfl (by decide) ?_)) | (apply z16; (refine za1 (first := []) (cap := []) (ps := [.d (.agg (z2z x)), I .i32 c]) hc rfl rfl (by decide) ?_)) | (apply z8a; (first | refine z00 (z5y rfl rfl (zo7 (by omega) (by omega))) rfl rfl (by decide) ?_ | refine z00 (z5y rfl rfl (z1n (by omega) (by omega))) rfl rfl (by decide) ?_)))) | (apply z0b; (first | refine z0u ?_ | apply z0a | refine z3v rfl rfl (by decide) ?_ | refine z1h rfl rfl (fun _ => ?_) (fun _ => ?_))) | (apply z0d; (first | apply z0e | apply z01 | refine z1d rfl ?_ | apply z06 | apply z02 | apply z03 | refine z1j rfl (fun _ => ?_) (fun _ => ?_) | refine z0j rfl ?_)))
     all_goals try (exfalso; omega)
     all_goals exact z0o ih' rfl rfl
   · have ih' := ih (i, (i + j) / 2) ⟨by simp only; omega, by simp only; omega, i3, fun p y hp hy => by have := hmono _ p x y hp hx hy; omega⟩ (by simp only; omega)
     rw [hh.symm] at ih'
     rw [if_neg hlo] at hc
     have hc0 : 0 ≤ (if c < x.2.1 then (1 : Int) else 0) := by split <;> omega
     generalize (if c < x.2.1 then (1 : Int) else 0) = cc at *
     repeat' (first | (apply z0c; (first | refine z0v rfl (by decide) ?_ | (apply z09; (refine z00 (z0q rfl rfl) rfl rfl (by decide) ?_)) | (apply z0n; (refine z00 (z0i (ys := l.map z2z) rfl (by omega) (zdt hxi) rfl) rfl rfl (by decide) ?_)) | (apply z18; (first | refine z00 (zf4 (by omega)) rfl rfl (by decide) ?_ | refine z00 (z11 (z1n (by omega) (by omega))) rfl rfl (by decide) ?_)) | (apply z16; (refine za1 (first := []) (cap := []) (ps := [.d (.agg (z2z x)), I .i32 c]) hc rfl rfl (by decide) ?_)) | (apply z8a; (first | refine z00 (z5y rfl rfl (zo7 (by omega) (by omega))) rfl rfl (by decide) ?_ | refine z00 (z5y rfl rfl (z1n (by omega) (by omega))) rfl rfl (by decide) ?_)))) | (apply z0b; (first | refine z0u ?_ | apply z0a | refine z3v rfl rfl (by decide) ?_ | refine z1h rfl rfl (fun _ => ?_) (fun _ => ?_))) | (apply z0d; (first | apply z0e | apply z01 | apply z06 | apply z02 | apply z03 | refine z1j rfl (fun _ => ?_) (fun _ => ?_) | refine z0j rfl ?_)))
     all_goals try (exfalso; omega)
     all_goals exact z0o ih' rfl rfl
 · obtain rfl : i = j := by omega
   have hcut := zvb (c := c) i2 i3 (fun x hx => i4 i x (Nat.le_refl _) hx)
   rw [← hcut]
   clear ih
   by_cases hin : i < l.length
   · obtain ⟨x, hx⟩ : ∃ x, l[i]? = some x := ⟨_, List.getElem?_eq_getElem hin⟩
     have hnl := i4 i x (Nat.le_refl _) hx
     have hc := zn4 x c
     rw [zu2, if_neg hnl] at hc
     rw [hx]
     simp only
     by_cases he : c < x.2.1
     · rw [if_pos he] at hc
       rw [show decide (x.2.1 = c) = false by simp; omega]
       repeat' (first | (apply z0c; (first | refine z0v rfl (by decide) ?_ | (apply z09; (refine z00 (z0q rfl rfl) rfl rfl (by decide) ?_)) | (apply z0n; (refine z00 (z0i (ys := l.map z2z) rfl (by omega) (idx hx) rfl) rfl rfl (by decide) ?_)) | (apply z18; (first | refine z00 (z11 (z1n (by omega) (by omega))) rfl rfl (by decide) ?_ | refine z00 (zf4 (by omega)) rfl rfl (by decide) ?_)) | (apply z16; (refine za1 (first := []) (cap := []) (ps := [.d (.agg (z2z x)), I .i32 c]) hc rfl rfl (by decide) ?_)) | (apply z8a; (first | refine z00 (z5y rfl rfl (zo7 (by omega) (by omega))) rfl rfl (by decide) ?_ | refine z00 (z5y rfl rfl (z1n (by omega) (by omega))) rfl rfl (by decide) ?_)))) | (apply z0b; (first | refine z0u ?_ | apply z0a | refine z3v rfl rfl (by decide) ?_ | refine z1h rfl rfl (fun _ => ?_) (fun _ => ?_))) | (apply z0d; (first | apply z0e | apply z01 | apply z06 | apply z02 | refine z1j rfl (fun _ => ?_) (fun _ => ?_) | refine z0j rfl ?_)))
       all_goals try (exfalso; omega)
       all_goals exact z0r Tryz.func74 _ (z4i rfl rfl rfl) ⟨rfl, rfl⟩
     · rw [if_neg he] at hc
       rw [show decide (x.2.1 = c) = true by simp; omega]
       repeat' (first | (apply z0c; (first | refine z0v rfl (by decide) ?_ | (apply z09; (refine z00 (z0q rfl rfl) rfl rfl (by decide) ?_)) | (apply z0n; (refine z00 (z0i (ys := l.map z2z) rfl (by omega) (idx hx) rfl) rfl rfl (by decide) ?_)) | (apply z18; (first | refine z00 (z11 (z1n (by omega) (by omega))) rfl rfl (by decide) ?_ | refine z00 (zf4 (by omega)) rfl rfl (by decide) ?_)) | (apply z16; (refine za1 (first := []) (cap := []) (ps := [.d (.agg (z2z x)), I .i32 c]) hc rfl rfl (by decide) ?_)) | (apply z8a; (first | refine z00 (z5y rfl rfl (zo7 (by omega) (by omega))) rfl rfl (by decide) ?_ | refine z00 (z5y rfl rfl (z1n (by omega) (by omega))) rfl rfl (by decide) ?_)))) | (apply z0b; (first | refine z0u ?_ | apply z0a | refine z3v rfl rfl (by decide) ?_ | refine z1h rfl rfl (fun _ => ?_) (fun _ => ?_))) | (apply z0d; (first | apply z0e | apply z01 | apply z06 | apply z02 | refine z1j rfl (fun _ => ?_) (fun _ => ?_) | refine z0j rfl ?_)))
       all_goals try (exfalso; omega)
       all_goals exact z0r Tryz.func74 _ (z4i rfl rfl rfl) ⟨rfl, rfl⟩
   · rw [List.getElem?_eq_none (by omega)]
     repeat' (first | (apply z0c; (first | refine z0v rfl (by decide) ?_ | (apply z18; (first | refine z00 (z11 (z1n (by omega) (by omega))) rfl rfl (by decide) ?_ | refine z00 (zf4 (by omega)) rfl rfl (by decide) ?_)) | (apply z8a; (first | refine z00 (z5y rfl rfl (zo7 (by omega) (by omega))) rfl rfl (by decide) ?_ | refine z00 (z5y rfl rfl (z1n (by omega) (by omega))) rfl rfl (by decide) ?_)))) | (apply z0b; (first | refine z0u ?_ | apply z0a | refine z3v rfl rfl (by decide) ?_ | refine z1h rfl rfl (fun _ => ?_) (fun _ => ?_))) | (apply z0d; (first | apply z0e | apply z01 | apply z06 | apply z02 | refine z1j rfl (fun _ => ?_) (fun _ => ?_) | refine z0j rfl ?_)))
     all_goals try (exfalso; omega)
     all_goals exact z0r Tryz.func74 _ (z4i rfl rfl rfl) ⟨rfl, rfl⟩
/-- the program's step -/
theorem zl5 (l : List Arc) (hl : l.length ≤ 4611686018427387904) (ho : okA none l) (c : Int) : z1f Tryz.prog 41 [.d (z96 l), I .i32 c] (I .i64 (nxt l c)) := by
 refine z1x fun H => ?_
 have hb := zmi l hl ho c
 have hcl := znb c l
 rw [zkx ho]
 refine z0t Tryz.func41 (by kernel_rfl) rfl (by simp) ?_
 dsimp only [Tryz.f41]
 by_cases hin : ze7 c l < l.length
 · obtain ⟨x, hx⟩ : ∃ x, l[ze7 c l]? = some x := ⟨_, List.getElem?_eq_getElem hin⟩
   rw [hx] at hb ⊢
   simp only at hb ⊢
   generalize ze7 c l = i at *
   by_cases hc : c < x.1
   · rw [if_pos hc]
     repeat' (first | (apply z0c; (first | refine z0v rfl (by decide) ?_ | (apply z09; (refine z00 (z1i rfl rfl rfl) rfl rfl (by decide) ?_)) | (apply z0h; (refine z00 (z5o rfl rfl) rfl rfl (by decide) ?_)) | (apply z0n; (refine z00 (z0i (ys := l.map z2z) rfl (by omega) (idx hx) rfl) rfl rfl (by decide) ?_)) | (apply z1a; (refine z00 (z1r rfl) rfl rfl (by decide) ?_)) | (apply z16; (refine za1 (first := []) (cap := []) (ps := [.d (z96 l), I .i32 c, .fn (.func 75) [] []]) hb rfl rfl (by decide) ?_)))) | (apply z0b; (first | refine z0u ?_ | apply z0a | refine z3v rfl rfl (by decide) ?_ | refine z1h rfl rfl (fun _ => ?_) (fun _ => ?_))) | (apply z0d; (first | apply z0e | apply z01 | refine z1d rfl ?_ | apply z06 | refine z1j rfl (fun _ => ?_) (fun _ => ?_))))
     all_goals try (exfalso; omega)
     all_goals exact z0r Tryz.func41 _ (z0p rfl rfl) ⟨rfl, rfl⟩
   · rw [if_neg hc]
     repeat' (first | (apply z0c; (first | refine z0v rfl (by decide) ?_ | (apply z09; (refine z00 (z1i rfl rfl rfl) rfl rfl (by decide) ?_)) | (apply z0h; (refine z00 (z5o rfl rfl) rfl rfl (by decide) ?_)) | (apply z0n; (refine z00 (z0i (ys := l.map z2z) rfl (by omega) (idx hx) rfl) rfl rfl (by decide) ?_)) | (apply z1a; (refine z00 (z1r rfl) rfl rfl (by decide) ?_)) | (apply z16; (refine za1 (first := []) (cap := []) (ps := [.d (z96 l), I .i32 c, .fn (.func 75) [] []]) hb rfl rfl (by decide) ?_)))) | (apply z0b; (first | refine z0u ?_ | apply z0a | refine z3v rfl rfl (by decide) ?_ | refine z1h rfl rfl (fun _ => ?_) (fun _ => ?_))) | (apply z0d; (first | apply z0e | apply z01 | refine z1d rfl ?_ | apply z06 | refine z1j rfl (fun _ => ?_) (fun _ => ?_))))
     all_goals try (exfalso; omega)
     all_goals exact z0r Tryz.func41 _ (z0p rfl rfl) ⟨rfl, rfl⟩
 · rw [List.getElem?_eq_none (by omega)] at hb ⊢
   simp only at hb ⊢
   have : ze7 c l = l.length := by omega
   rw [this] at hb
   repeat' (first | (apply z0c; (first | refine z0v rfl (by decide) ?_ | (apply z1a; (refine z00 (z1r rfl) rfl rfl (by decide) ?_)) | (apply z16; (refine za1 (first := []) (cap := []) (ps := [.d (z96 l), I .i32 c, .fn (.func 75) [] []]) hb rfl rfl (by decide) ?_)))) | (apply z0b; (first | refine z0u ?_ | apply z0a | refine z3v rfl rfl (by decide) ?_ | refine z1h rfl rfl (fun _ => ?_) (fun _ => ?_))) | (apply z0d; (first | apply z0e | apply z01 | refine z1d rfl ?_)))
   all_goals try (exfalso; omega)
   all_goals exact z0r Tryz.func41 _ (z0p rfl rfl) ⟨rfl, rfl⟩
end Go.Proofs.YthdfkabdoidjfaaGreatDoor
namespace Go.Proofs.YthdfkabdoidjfaaGreatDoor
open Go.Ab Go.Ax
set_option maxHeartbeats 20000000
set_option maxRecDepth 100000
attribute [local irreducible] Run Ops Op1 z2f Val Tr z1f z2d NF Rel z47 z48
def zkp (op : Int) (p q : Bool) : Bool := if op = 1 then p && q else if op = 2 then p || q else if op = 3 then p && !q else p != q
theorem zk7 (op : Int) (p q : Bool) : z1f Tryz.prog 95 [I .i64 op, B p, B q] (B (zkp op p q)) := by
 refine z1x fun H => ?_
 refine z0t Tryz.func95 (by kernel_rfl) rfl (by simp) ?_
 dsimp only [Tryz.f95]
 rw [zkp]
 by_cases h1 : op = 1
 · rw [if_pos h1]
   cases p <;> cases q
   all_goals repeat' (first | (apply z0c; (first | refine z0v rfl (by decide) ?_ | (apply z18; (refine z00 (zh8 rfl) rfl rfl (by decide) ?_)))) | (apply z0b; (first | refine z0u ?_ | apply z0a | refine z3v rfl rfl (by decide) ?_)) | (apply z0d; (first | apply z0e | apply z01 | apply z06 | apply z02 | apply z03 | refine z1j rfl (fun _ => ?_) (fun _ => ?_))))
   all_goals try (exfalso; omega)
   all_goals exact z0r Tryz.func95 _ (z0p rfl rfl) ⟨rfl, rfl⟩
 rw [if_neg h1]
 by_cases h2 : op = 2
 · rw [if_pos h2]
   cases p <;> cases q
   all_goals repeat' (first | (apply z0c; (first | refine z0v rfl (by decide) ?_ | (apply z18; (refine z00 (zh8 rfl) rfl rfl (by decide) ?_)))) | (apply z0b; (first | refine z0u ?_ | apply z0a | refine z3v rfl rfl (by decide) ?_)) | (apply z0d; (first | apply z0e | apply z01 | apply z06 | apply z02 | apply z03 | refine z1j rfl (fun _ => ?_) (fun _ => ?_))))
   all_goals try (exfalso; omega)
   all_goals exact z0r Tryz.func95 _ (z0p rfl rfl) ⟨rfl, rfl⟩
 rw [if_neg h2]
 by_cases h3 : op = 3
 · rw [if_pos h3]
   cases p <;> cases q
   all_goals repeat' (first | (apply z0c; (first | refine z0v rfl (by decide) ?_ | (apply z18; (refine z00 (zh8 rfl) rfl rfl (by decide) ?_)))) | (apply z0b; (first | refine z0u ?_ | apply z0a | refine z3v rfl rfl (by decide) ?_)) | (apply z0d; (first | apply z0e | apply z01 | apply z06 | apply z02 | apply z03 | refine z1j rfl (fun _ => ?_) (fun _ => ?_))))
   all_goals try (exfalso; omega)
   all_goals exact z0r Tryz.func95 _ (z0p rfl rfl) ⟨rfl, rfl⟩
 rw [if_neg h3]
 cases p <;> cases q
 all_goals repeat' (first | (apply z0c; (first | refine z0v rfl (by decide) ?_ | (apply z18; (refine z00 (zh8 rfl) rfl rfl (by decide) ?_)))) | (apply z0b; (first | refine z0u ?_ | apply z0a | refine z3v rfl rfl (by decide) ?_)) | (apply z0d; (first | apply z0e | apply z01 | apply z06 | apply z02 | apply z03 | refine z1j rfl (fun _ => ?_) (fun _ => ?_))))
 all_goals try (exfalso; omega)
 all_goals exact z0r Tryz.func95 _ (z0p rfl rfl) ⟨rfl, rfl⟩
def zkl (op : Int) (p q : Int) : Bool := if op = 1 then decide (p < 0) || decide (q < 0) else if op = 3 then decide (p < 0) else decide (p < 0) && decide (q < 0)
theorem zmv (op p q : Int) : z1f Tryz.prog 100 [I .i64 op, .d (.agg [z2x p, z2x q])] (B (zkl op p q)) := by
 refine z1x fun H => ?_
 refine z0t Tryz.func100 (by kernel_rfl) rfl (by simp) ?_
 dsimp only [Tryz.f100]
 rw [zkl]
 by_cases h1 : op = 1
 · rw [if_pos h1]
   by_cases p0 : p < 0
   · rw [decide_eq_true p0, Bool.true_or]
     repeat' (first | (apply z0c; (first | refine z0v rfl (by decide) ?_ | (apply z09; (refine z00 (z0g rfl rfl rfl rfl) rfl rfl (by decide) ?_)) | (apply z0h; (refine z00 (z04 rfl rfl) rfl rfl (by decide) ?_)) | (apply z2b; (refine z07 (z2k rfl rfl rfl rfl rfl (by decide)) ?_)))) | (apply z0b; (first | refine z0u ?_ | apply z0a | refine z3v rfl rfl (by decide) ?_ | refine z1h rfl rfl (fun _ => ?_) (fun _ => ?_))) | (apply z0d; (first | apply z0e | apply z01 | apply z06 | apply z02 | apply z03 | refine z1j rfl (fun _ => ?_) (fun _ => ?_))))
     all_goals try (exfalso; omega)
     all_goals exact z0r Tryz.func100 _ (z0p rfl rfl) ⟨rfl, rfl⟩
   · rw [decide_eq_false p0, Bool.false_or]
     repeat' (first | (apply z0c; (first | refine z0v rfl (by decide) ?_ | (apply z09; (refine z00 (z0g rfl rfl rfl rfl) rfl rfl (by decide) ?_)) | (apply z0h; (refine z00 (z04 rfl rfl) rfl rfl (by decide) ?_)) | (apply z2b; (refine z07 (z2k rfl rfl rfl rfl rfl (by decide)) ?_)))) | (apply z0b; (first | refine z0u ?_ | apply z0a | refine z3v rfl rfl (by decide) ?_ | refine z1h rfl rfl (fun _ => ?_) (fun _ => ?_))) | (apply z0d; (first | apply z0e | apply z01 | apply z06 | apply z02 | apply z03 | refine z1j rfl (fun _ => ?_) (fun _ => ?_))))
     all_goals try (exfalso; omega)
     all_goals exact z0r Tryz.func100 _ (z0p rfl rfl) ⟨rfl, rfl⟩
 rw [if_neg h1]
 by_cases h3 : op = 3
 · rw [if_pos h3]
   repeat' (first | (apply z0c; (first | refine z0v rfl (by decide) ?_ | (apply z09; (refine z00 (z0g rfl rfl rfl rfl) rfl rfl (by decide) ?_)) | (apply z0h; (refine z00 (z04 rfl rfl) rfl rfl (by decide) ?_)) | (apply z2b; (refine z07 (z2k rfl rfl rfl rfl rfl (by decide)) ?_)))) | (apply z0b; (first | refine z0u ?_ | apply z0a | refine z3v rfl rfl (by decide) ?_ | refine z1h rfl rfl (fun _ => ?_) (fun _ => ?_))) | (apply z0d; (first | apply z0e | apply z01 | apply z06 | apply z02 | apply z03 | refine z1j rfl (fun _ => ?_) (fun _ => ?_))))
   all_goals try (exfalso; omega)
   all_goals exact z0r Tryz.func100 _ (z0p rfl rfl) ⟨rfl, rfl⟩
 rw [if_neg h3]
 by_cases p0 : p < 0
 · rw [decide_eq_true p0, Bool.true_and]
   repeat' (first | (apply z0c; (first | refine z0v rfl (by decide) ?_ | (apply z09; (refine z00 (z0g rfl rfl rfl rfl) rfl rfl (by decide) ?_)) | (apply z0h; (refine z00 (z04 rfl rfl) rfl rfl (by decide) ?_)) | (apply z2b; (refine z07 (z2k rfl rfl rfl rfl rfl (by decide)) ?_)))) | (apply z0b; (first | refine z0u ?_ | apply z0a | refine z3v rfl rfl (by decide) ?_ | refine z1h rfl rfl (fun _ => ?_) (fun _ => ?_))) | (apply z0d; (first | apply z0e | apply z01 | apply z06 | apply z02 | apply z03 | refine z1j rfl (fun _ => ?_) (fun _ => ?_))))
   all_goals try (exfalso; omega)
   all_goals exact z0r Tryz.func100 _ (z0p rfl rfl) ⟨rfl, rfl⟩
 · rw [decide_eq_false p0, Bool.false_and]
   repeat' (first | (apply z0c; (first | refine z0v rfl (by decide) ?_ | (apply z09; (refine z00 (z0g rfl rfl rfl rfl) rfl rfl (by decide) ?_)) | (apply z0h; (refine z00 (z04 rfl rfl) rfl rfl (by decide) ?_)) | (apply z2b; (refine z07 (z2k rfl rfl rfl rfl rfl (by decide)) ?_)))) | (apply z0b; (first | refine z0u ?_ | apply z0a | refine z3v rfl rfl (by decide) ?_ | refine z1h rfl rfl (fun _ => ?_) (fun _ => ?_))) | (apply z0d; (first | apply z0e | apply z01 | apply z06 | apply z02 | apply z03 | refine z1j rfl (fun _ => ?_) (fun _ => ?_))))
   all_goals try (exfalso; omega)
   all_goals exact z0r Tryz.func100 _ (z0p rfl rfl) ⟨rfl, rfl⟩
theorem zea (a : Au) (q : Int) (hq : q < a.F.length) : z1f Tryz.prog 96 [.d (auD a), I .i64 q] (B (a.fin q)) := by
 obtain ⟨F, A⟩ := a
 refine z1x fun H => ?_
 refine z0t Tryz.func96 (by kernel_rfl) rfl (by simp) ?_
 dsimp only [Tryz.f96]
 rw [Au.fin]
 by_cases hn : q < 0
 · rw [if_pos hn]
   repeat' (first | (apply z0c; (first | refine z0v rfl (by decide) ?_ | (apply z09; (refine z00 (z0g rfl rfl rfl rfl) rfl rfl (by decide) ?_)) | (apply z0h; (refine z00 (z04 rfl rfl) rfl rfl (by decide) ?_)) | (apply z2b; (refine z07 (z2k rfl rfl rfl rfl rfl (by decide)) ?_)))) | (apply z0b; (first | refine z0u ?_ | apply z0a | refine z3v rfl rfl (by decide) ?_ | refine z1h rfl rfl (fun _ => ?_) (fun _ => ?_))) | (apply z0d; (first | apply z0e | apply z01)))
   all_goals try (exfalso; omega)
   all_goals exact z0r Tryz.func96 _ (z0p rfl rfl) ⟨rfl, rfl⟩
 · rw [if_neg hn]
   obtain ⟨k, rfl⟩ : ∃ k : Nat, q = k := ⟨q.toNat, by omega⟩
   simp only at hq
   obtain ⟨b, hb⟩ : ∃ b, F[k]? = some b := ⟨_, List.getElem?_eq_getElem (by omega)⟩
   simp only [Int.toNat_natCast, List.getD, hb, Option.getD_some]
   repeat' (first | (apply z0c; (first | refine z0v rfl (by decide) ?_ | (apply z09; (first | refine z00 (z0g rfl rfl rfl rfl) rfl rfl (by decide) ?_ | refine z00 (z1i rfl rfl rfl) rfl rfl (by decide) ?_)) | (apply z0h; (refine z00 (z04 rfl rfl) rfl rfl (by decide) ?_)) | (apply z0n; (refine z00 (z0i (ys := F.map fun b => [zad b]) rfl (by omega) (idx (g := fun b => [zad b]) hb) rfl) rfl rfl (by decide) ?_)) | (apply z2b; (refine z07 (z2k rfl rfl rfl rfl rfl (by decide)) ?_)))) | (apply z0b; (first | refine z0u ?_ | apply z0a)) | (apply z0d; (first | apply z0e | apply z01)))
   all_goals try (exfalso; omega)
   all_goals exact z0r Tryz.func96 _ (z0p rfl rfl) ⟨rfl, rfl⟩
theorem zim (a : Au) (q : Int) (hq : q < a.A.length) : z1f Tryz.prog 98 [.d (auD a), I .i64 q] (.d (z96 (a.arcs q))) := by
 obtain ⟨F, A⟩ := a
 refine z1x fun H => ?_
 refine z0t Tryz.func98 (by kernel_rfl) rfl (by simp) ?_
 dsimp only [Tryz.f98]
 rw [Au.arcs]
 by_cases hn : q < 0
 · rw [if_pos hn]
   repeat' (first | (apply z0c; (first | refine z0v rfl (by decide) ?_ | (apply z09; (refine z00 (z0g rfl rfl rfl rfl) rfl rfl (by decide) ?_)) | (apply z0h; (refine z00 (z04 rfl rfl) rfl rfl (by decide) ?_)) | (apply z2b; (refine z07 (z2k rfl rfl rfl rfl rfl (by decide)) ?_)))) | (apply z0b; (first | refine z0u ?_ | apply z0a)) | (apply z0d; (first | apply z0e | apply z01 | apply z06 | refine z1j rfl (fun _ => ?_) (fun _ => ?_))))
   all_goals try (exfalso; omega)
   refine zu7 4 rfl ?_
   all_goals exact z0r Tryz.func98 _ (z0p rfl rfl) ⟨rfl, rfl⟩
 · rw [if_neg hn]
   obtain ⟨k, rfl⟩ : ∃ k : Nat, q = k := ⟨q.toNat, by omega⟩
   simp only at hq
   obtain ⟨l, hb⟩ : ∃ l, A[k]? = some l := ⟨_, List.getElem?_eq_getElem (by omega)⟩
   simp only [Int.toNat_natCast, List.getD, hb, Option.getD_some]
   repeat' (first | (apply z0c; (first | refine z0v rfl (by decide) ?_ | (apply z09; (first | refine z00 (z0g rfl rfl rfl rfl) rfl rfl (by decide) ?_ | refine z00 (z1i rfl rfl rfl) rfl rfl (by decide) ?_)) | (apply z0h; (refine z00 (z04 rfl rfl) rfl rfl (by decide) ?_)) | (apply z0n; (refine z00 (z0i (ys := A.map z5x) rfl (by omega) (idx hb) rfl) rfl rfl (by decide) ?_)) | (apply z2b; (refine z07 (z2k rfl rfl rfl rfl rfl (by decide)) ?_)))) | (apply z0b; (first | refine z0u ?_ | apply z0a)) | (apply z0d; (first | apply z0e | apply z01 | refine z0m rfl ?_ | apply z06)))
   all_goals try (exfalso; omega)
   all_goals exact z0r Tryz.func98 _ (z0p rfl rfl) ⟨rfl, rfl⟩
end Go.Proofs.YthdfkabdoidjfaaGreatDoor
namespace Go.Proofs.YthdfkabdoidjfaaGreatDoor
open Go.Ab Go.Ax
set_option maxHeartbeats 20000000
set_option maxRecDepth 100000
attribute [local irreducible] Run Ops Op1 z2f Val Tr z1f z2d NF Rel z47 z48
theorem zs2 (l : List Arc) (hl : l.length ≤ 2000000) : z1f Tryz.prog 85 [.d (z96 l)] (.d (z96 l)) := by
 refine z1x fun H => ?_
 refine z0t Tryz.func85 (by kernel_rfl) rfl (by simp) ?_
 dsimp only [Tryz.f85]
 repeat' (first | (apply z0c; (first | refine z0v rfl (by decide) ?_ | (apply z1a; (refine z00 (z1r rfl) rfl rfl (by decide) ?_)))) | (apply z0b; (first | refine z0u ?_ | apply z0a)) | (apply z0d; (first | apply z0e | apply z01 | apply z02)))
 all_goals try (exfalso; omega)
 refine z2o 3 1000 169 3 rfl rfl rfl ?_
 refine z1q ?_
 refine z0o (z2r (fun q : Nat => ⟨24, [(3, .ref (0, 1000)), (6, .d (z96 l)), (7, I .i64 l.length), (8, I .i64 (q : Nat))], [(1000, .row 169 3 ((l.take q).map z2z))], H⟩) (fun q => q ≤ l.length) (fun q => l.length - q) ?_ 0 (Nat.zero_le _)) rfl rfl
 rintro i i1 ih
 by_cases hlt : i < l.length
 · obtain ⟨x, hx⟩ : ∃ x, l[i]? = some x := ⟨_, List.getElem?_eq_getElem hlt⟩
   have ih' := ih (i + 1) (by omega) (by omega)
   rw [z7h hx] at ih'
   have htl : (l.take i).length ≤ 2000000 := by rw [List.length_take]; omega
   generalize l.take i = Q at *
   repeat' (first | (apply z0c; (first | refine z0v rfl (by decide) ?_ | (apply z09; (first | refine z00 (z0g rfl rfl rfl rfl) rfl rfl (by decide) ?_ | refine z00 (z0q rfl rfl) rfl rfl (by decide) ?_)) | (apply z0h; (refine z00 (z04 rfl rfl) rfl rfl (by decide) ?_)) | (apply z0n; (refine z00 (z0i (ys := l.map z2z) rfl (by omega) (idx hx) rfl) rfl rfl (by decide) ?_)) | (apply z18; (refine z00 (z11 (z1n (by omega) (by omega))) rfl rfl (by decide) ?_)) | (apply z1a; (refine z1u (g := z2z) rfl rfl x rfl rfl rfl rfl rfl rfl rfl (by decide) (by omega) ?_)) | (apply z0f; (refine z08 rfl rfl rfl rfl rfl rfl ?_)) | (apply z0l; (refine z07 (z0k rfl rfl (by decide)) ?_)) | (apply z0z; (refine z10 rfl rfl rfl rfl rfl rfl rfl (by decide) ?_)) | (apply z2j; (refine z2q rfl rfl rfl rfl rfl rfl rfl rfl (by decide) ?_)))) | (apply z0b; (first | refine z0u ?_ | apply z0a)) | (apply z0d; (first | apply z0e | apply z01 | apply z06 | apply z02 | apply z03 | refine z1j rfl (fun _ => ?_) (fun _ => ?_) | refine z0j rfl ?_)))
   all_goals try (exfalso; omega)
   all_goals refine z2h 21 1000 rfl rfl ?_
   all_goals exact z0o ih' rfl rfl
 · obtain rfl : i = l.length := by omega
   rw [List.take_length] at *
   repeat' (first | (apply z0c; (refine z0v rfl (by decide) ?_)) | (apply z0b; (first | refine z0u ?_ | apply z0a)) | (apply z0d; (first | apply z0e | apply z01 | apply z06 | apply z02 | refine z1j rfl (fun _ => ?_) (fun _ => ?_) | refine z0j rfl ?_)))
   all_goals try (exfalso; omega)
   all_goals refine z1z 1000 rfl ?_
   all_goals exact z0r Tryz.func85 _ (z0p rfl rfl) ⟨rfl, rfl⟩
def z6b (l : List Arc) : List Rx.Rg := l.map fun x => (x.1, x.2.1)
theorem zco (l : List Arc) (hl : l.length ≤ 2000000) : z1f Tryz.prog 99 [.d (z96 l)] (.d (rgs (z6b l))) := by
 refine z1x fun H => ?_
 refine z0t Tryz.func99 (by kernel_rfl) rfl (by simp) ?_
 dsimp only [Tryz.f99]
 repeat' (first | (apply z0c; (first | refine z0v rfl (by decide) ?_ | (apply z1a; (refine z00 (z1r rfl) rfl rfl (by decide) ?_)))) | (apply z0b; (first | refine z0u ?_ | apply z0a)) | (apply z0d; (first | apply z0e | apply z01 | apply z02)))
 all_goals try (exfalso; omega)
 refine z2o 3 1000 155 2 rfl rfl rfl ?_
 refine z1q ?_
 refine z0o (z2r (fun q : Nat => ⟨22, [(3, .ref (0, 1000)), (6, .d (z96 l)), (7, I .i64 l.length), (8, I .i64 (q : Nat))], [(1000, .row 155 2 (((z6b l).take q).map rgc))], H⟩) (fun q => q ≤ l.length) (fun q => l.length - q) ?_ 0 (Nat.zero_le _)) rfl rfl
 rintro i i1 ih
 by_cases hlt : i < l.length
 · obtain ⟨x, hx⟩ : ∃ x, l[i]? = some x := ⟨_, List.getElem?_eq_getElem hlt⟩
   have hr : (z6b l)[i]? = some (x.1, x.2.1) := by rw [z6b, List.getElem?_map, hx]; rfl
   have ih' := ih (i + 1) (by omega) (by omega)
   rw [z7h hr] at ih'
   have htl : ((z6b l).take i).length ≤ 2000000 := by rw [List.length_take]; omega
   generalize (z6b l).take i = Q at *
   repeat' (first | (apply z0c; (first | refine z0v rfl (by decide) ?_ | (apply z09; (first | refine z00 (z0g rfl rfl rfl rfl) rfl rfl (by decide) ?_ | refine z00 (z0q rfl rfl) rfl rfl (by decide) ?_)) | (apply z0h; (refine z00 (z04 rfl rfl) rfl rfl (by decide) ?_)) | (apply z0n; (refine z00 (z0i (ys := l.map z2z) rfl (by omega) (idx hx) rfl) rfl rfl (by decide) ?_)) | (apply z18; (refine z00 (z11 (z1n (by omega) (by omega))) rfl rfl (by decide) ?_)) | (apply z1a; (refine z1u (g := rgc) rfl rfl (x.1, x.2.1) rfl rfl rfl rfl rfl rfl rfl (by decide) (by omega) ?_)) | (apply z0f; (refine z08 rfl rfl rfl rfl rfl rfl ?_)) | (apply z0l; (refine z07 (z0k rfl rfl (by decide)) ?_)) | (apply z0z; (refine z10 rfl rfl rfl rfl rfl rfl rfl (by decide) ?_)) | (apply z2j; (refine z2q rfl rfl rfl rfl rfl rfl rfl rfl (by decide) ?_)))) | (apply z0b; (first | refine z0u ?_ | apply z0a)) | (apply z0d; (first | apply z0e | apply z01 | apply z06 | apply z02 | apply z03 | refine z1j rfl (fun _ => ?_) (fun _ => ?_) | refine z0j rfl ?_)))
   all_goals try (exfalso; omega)
   all_goals refine z2h 19 1000 rfl rfl ?_
   all_goals exact z0o ih' rfl rfl
 · obtain rfl : i = l.length := by omega
   rw [show l.length = (z6b l).length by rw [z6b, List.length_map], List.take_length] at *
   repeat' (first | (apply z0c; (refine z0v rfl (by decide) ?_)) | (apply z0b; (first | refine z0u ?_ | apply z0a)) | (apply z0d; (first | apply z0e | apply z01 | apply z06 | apply z02 | refine z1j rfl (fun _ => ?_) (fun _ => ?_) | refine z0j rfl ?_)))
   all_goals try (exfalso; omega)
   all_goals refine z1z 1000 rfl ?_
   all_goals exact z0r Tryz.func99 _ (z0p rfl rfl) ⟨rfl, rfl⟩
end Go.Proofs.YthdfkabdoidjfaaGreatDoor
namespace Go.Proofs.YthdfkabdoidjfaaGreatDoor
open Go.Ab Go.Ax
set_option maxHeartbeats 20000000
set_option maxRecDepth 100000
attribute [local irreducible] Run Ops Op1 z2f Val Tr z1f z2d NF Rel z47 z48
abbrev ints (l : List Int) : D := .slice (l.map fun x => [z2x x])
theorem zf7 (l : List Arc) (cl : List Int) (hl : l.length ≤ 2000000) (hr : ∀ x ∈ l, 0 ≤ x.1 ∧ x.1 ≤ x.2.1 ∧ x.2.1 ≤ 1114111 ∧ 0 ≤ x.2.2 ∧ x.2.2 < cl.length) : z1f Tryz.prog 81 [.d (z96 l), .d (ints cl)] (.d (z96 (byC cl l))) := by
 refine z1x fun H => ?_
 refine z0t Tryz.func81 (by kernel_rfl) rfl (by simp) ?_
 dsimp only [Tryz.f81]
 repeat' (first | (apply z0c; (first | refine z0v rfl (by decide) ?_ | (apply z1a; (refine z00 (z1r rfl) rfl rfl (by decide) ?_)))) | (apply z0b; (first | refine z0u ?_ | apply z0a)) | (apply z0d; (first | apply z0e | apply z01 | apply z02)))
 all_goals try (exfalso; omega)
 refine z2o 5 1000 169 3 rfl rfl rfl ?_
 refine z1q ?_
 refine z0o (z2r (fun q : Nat × List Arc => ⟨67, [(1, .d (ints cl)), (5, .ref (0, 1000)), (10, .d (z96 l)), (11, I .i64 l.length), (12, I .i64 (q.1 : Nat))], [(1000, .row 169 3 (q.2.map z2z))], H⟩) (fun q => q.1 ≤ l.length ∧ q.2.length ≤ q.1 ∧ (∀ y ∈ q.2, 0 ≤ y.2.1 ∧ y.2.1 ≤ 1114111) ∧ (l.drop q.1).foldl (z9i cl) q.2 = byC cl l) (fun q => l.length - q.1) ?_ (0, []) ⟨Nat.zero_le _, Nat.le_refl _, by simp, rfl⟩) rfl rfl
 rintro ⟨i, out⟩ ⟨i1, i2, i3, i4⟩ ih
 simp only at i1 i2 i3 i4 ih ⊢
 by_cases hlt : i < l.length
 · obtain ⟨x, hx⟩ : ∃ x, l[i]? = some x := ⟨_, List.getElem?_eq_getElem hlt⟩
   obtain ⟨r1, r2, r3, r4, r5⟩ := hr x (List.mem_of_getElem? hx)
   obtain ⟨k, hk⟩ : ∃ k, cl[x.2.2.toNat]? = some k := ⟨_, List.getElem?_eq_getElem (by omega)⟩
   have hck : clA cl x.2.2 = k := by rw [clA, if_neg (by omega), List.getD, hk]; rfl
   rw [drop_cons hx, List.foldl_cons, z9i, hck] at i4
   by_cases hneg : k < 0
   · rw [if_pos hneg] at i4
     have ih' := ih (i + 1, out) ⟨by simp only; omega, by simp only; omega, i3, i4⟩ (by simp only; omega)
     repeat' (first | (apply z0c; (first | refine z0v rfl (by decide) ?_ | (apply z09; (first | refine z00 (z0g rfl rfl rfl rfl) rfl rfl (by decide) ?_ | refine z00 (z1i rfl rfl rfl) rfl rfl (by decide) ?_ | refine z00 (z0q rfl rfl) rfl rfl (by decide) ?_)) | (apply z0h; (refine z00 (z04 rfl rfl) rfl rfl (by decide) ?_)) | (apply z0n; (first | refine z00 (z0i (ys := l.map z2z) rfl (by omega) (idx hx) rfl) rfl rfl (by decide) ?_ | refine z00 (z0i (ys := cl.map fun x => [z2x x]) rfl (by omega) (zdt (g := fun x => [z2x x]) hk) rfl) rfl rfl (by decide) ?_)) | (apply z18; (refine z00 (z11 (z1n (by omega) (by omega))) rfl rfl (by decide) ?_)) | (apply z1a; (refine z00 (z1p rfl) rfl rfl (by decide) ?_)) | (apply z0f; (refine z08 rfl rfl rfl rfl rfl rfl ?_)) | (apply z0l; (refine z07 (z0k rfl rfl (by decide)) ?_)) | (apply z0z; (refine z10 rfl rfl rfl rfl rfl rfl rfl (by decide) ?_)) | (apply z2j; (refine z2q rfl rfl rfl rfl rfl rfl rfl rfl (by decide) ?_)))) | (apply z0b; (first | refine z0u ?_ | apply z0a)) | (apply z0d; (first | apply z0e | apply z01 | refine z0m rfl ?_ | apply z06 | apply z02 | apply z3c | refine z1j rfl (fun _ => ?_) (fun _ => ?_) | refine z0j rfl ?_)) | (apply z3b; (first | (apply z1k; refine z2a mix (by kernel_rfl) ?_) | refine z2e rfl rfl (by decide) ?_ | refine z3g rfl (by first | exact rfl | exact ⟨_, rfl, rfl, rfl⟩) (by decide) ?_ | (apply z2c; (refine z05 (z29 (z1n (by omega) (by omega))) (by first | exact rfl | exact ⟨_, rfl, rfl, rfl⟩) rfl rfl (by decide) ?_)) | (refine z1t rfl rfl (fun hg => ?_) (fun hg => ?_) <;> simp only [hg] <;> (try simp only [decide_eq_true_eq, decide_eq_false_iff_not, Bool.not_eq_true', Bool.not_eq_false'] at hg)))))
     all_goals try (exfalso; omega)
     all_goals exact z0o ih' rfl rfl
   · rw [if_neg hneg] at i4
     have hln := z9m out x.1 x.2.1 k
     have ih' := ih (i + 1, ext out x.1 x.2.1 k) ⟨by simp only; omega, by simp only; omega, fun y hy => by
      rcases ext_mem hy with h | h
      · omega
      · exact i3 y h, i4⟩ (by simp only; omega)
     clear ih hln
     rcases zgr out with rfl | ⟨m, y, rfl⟩
     · rw [ext_nil] at ih'
       simp only at ih'
       repeat' (first | (apply z0c; (first | refine z0v rfl (by decide) ?_ | (apply z09; (first | refine z00 (z0g rfl rfl rfl rfl) rfl rfl (by decide) ?_ | refine z00 (z1i rfl rfl rfl) rfl rfl (by decide) ?_ | refine z00 (z0q rfl rfl) rfl rfl (by decide) ?_)) | (apply z0h; (refine z00 (z04 rfl rfl) rfl rfl (by decide) ?_)) | (apply z0n; (first | refine z00 (z0i (ys := l.map z2z) rfl (by omega) (idx hx) rfl) rfl rfl (by decide) ?_ | refine z00 (z0i (ys := cl.map fun x => [z2x x]) rfl (by omega) (zdt (g := fun x => [z2x x]) hk) rfl) rfl rfl (by decide) ?_)) | (apply z18; (refine z00 (z11 (z1n (by omega) (by omega))) rfl rfl (by decide) ?_)) | (apply z1a; (first | refine z00 (z6a rfl) rfl rfl (by decide) ?_ | refine z1u (g := z2z) rfl rfl (x.1, x.2.1, k) rfl rfl rfl rfl rfl rfl rfl (by decide) (by simp) ?_)) | (apply z0f; (refine z08 rfl rfl rfl rfl rfl rfl ?_)) | (apply z0l; (refine z07 (z0k rfl rfl (by decide)) ?_)) | (apply z0z; (refine z10 rfl rfl rfl rfl rfl rfl rfl (by decide) ?_)) | (apply z2j; (refine z2q rfl rfl rfl rfl rfl rfl rfl rfl (by decide) ?_)))) | (apply z0b; (first | refine z0u ?_ | apply z0a)) | (apply z0d; (first | apply z0e | apply z01 | refine z0m rfl ?_ | apply z06 | apply z02 | apply z3c | apply z03 | refine z1j rfl (fun _ => ?_) (fun _ => ?_) | refine z0j rfl ?_)) | (apply z3b; (first | (apply z1k; refine z2a mix (by kernel_rfl) ?_) | refine z2e rfl rfl (by decide) ?_ | refine z3g rfl (by first | exact rfl | exact ⟨_, rfl, rfl, rfl⟩) (by decide) ?_)))
       all_goals try (exfalso; first | omega | (simp at *; done))
       all_goals refine z2h 64 1000 rfl rfl ?_
       all_goals exact z0o ih' rfl rfl
     · have hy := i3 y (by simp)
       have hln : ((m ++ [y]).map z2z).length = m.length + 1 := by simp
       have hln2 : (m ++ [y]).length = m.length + 1 := by simp
       have hix : (m ++ [y])[((((((m ++ [y]).map z2z).length : Nat) : Int) - 1)).toNat]? = some y := by
        rw [hln, show (((m.length + 1 : Nat) : Int) - 1).toNat = m.length by omega]; simp
       have hse : (m ++ [y]).set ((((((m ++ [y]).map z2z).length : Nat) : Int) - 1)).toNat ((y.1, x.2.1, y.2.2) : Arc) = m ++ [(y.1, x.2.1, y.2.2)] := by
        rw [hln, show (((m.length + 1 : Nat) : Int) - 1).toNat = m.length by omega]; simp
       rw [z3w] at ih'
       by_cases hj : y.2.1 + 1 = x.1 ∧ y.2.2 = k
       · rw [if_pos hj, ← hj.2] at ih'
         simp only at ih'
         repeat' (first | (apply z0c; (first | refine z0v rfl (by decide) ?_ | (apply z09; (first | refine z00 (z0g rfl rfl rfl rfl) rfl rfl (by decide) ?_ | refine z00 (z1i rfl rfl rfl) rfl rfl (by decide) ?_ | refine z00 (z0q rfl rfl) rfl rfl (by decide) ?_)) | (apply z0h; (first | refine z00 (z04 rfl rfl) rfl rfl (by decide) ?_ | refine z00 (z1s rfl rfl) rfl rfl (by decide) ?_)) | (apply z0n; (first | refine z00 (z0i (ys := l.map z2z) rfl (by omega) (idx hx) rfl) rfl rfl (by decide) ?_ | refine z00 (z0i (ys := cl.map fun x => [z2x x]) rfl (by omega) (zdt (g := fun x => [z2x x]) hk) rfl) rfl rfl (by decide) ?_ | refine z00 (z13 rfl (by omega) (by omega) rfl) rfl rfl (by decide) ?_)) | (apply z18; (first | refine z00 (z11 (z1n (by omega) (by omega))) rfl rfl (by decide) ?_ | refine z00 (z29 (z1n (by omega) (by omega))) rfl rfl (by decide) ?_)) | (apply z1a; (first | refine z00 (z6a rfl) rfl rfl (by decide) ?_ | refine z1u (g := z2z) rfl rfl (x.1, x.2.1, k) rfl rfl rfl rfl rfl rfl rfl (by decide) (by omega) ?_)) | (apply z0f; (first | refine z1v ((y.1, x.2.1, y.2.2) : Arc) rfl rfl rfl rfl hix rfl rfl rfl hse ?_ | refine z08 rfl rfl rfl rfl rfl rfl ?_)) | (apply z0l; (refine z07 (z0k rfl rfl (by decide)) ?_)) | (apply z0z; (refine z10 rfl rfl rfl rfl rfl rfl rfl (by decide) ?_)) | (apply z2j; (refine z2q rfl rfl rfl rfl rfl rfl rfl rfl (by decide) ?_)))) | (apply z0b; (first | refine z0u ?_ | apply z0a)) | (apply z0d; (first | apply z0e | apply z01 | refine z0m rfl ?_ | apply z06 | apply z02 | apply z3c | apply z03 | refine z1j rfl (fun _ => ?_) (fun _ => ?_) | refine z0j rfl ?_)) | (apply z3b; (first | (apply z1k; refine z2a mix (by kernel_rfl) ?_) | refine z2e rfl rfl (by decide) ?_ | refine z3g rfl (by first | exact rfl | exact ⟨_, rfl, rfl, rfl⟩) (by decide) ?_ | (apply z0x; (first | refine z05 (z19 (u := z5u y.2.1) hix rfl rfl rfl) (by first | exact rfl | exact ⟨_, rfl, rfl, rfl⟩) rfl rfl (by decide) ?_ | refine z05 (z19 (u := z2x y.2.2) hix rfl rfl rfl) (by first | exact rfl | exact ⟨_, rfl, rfl, rfl⟩) rfl rfl (by decide) ?_ | refine z05 (z0g rfl rfl rfl rfl) (by first | exact rfl | exact ⟨_, rfl, rfl, rfl⟩) rfl rfl (by decide) ?_)) | (apply z0w; (first | refine z05 (z04 rfl rfl) (by first | exact rfl | exact ⟨_, rfl, rfl, rfl⟩) rfl rfl (by decide) ?_ | refine z05 (z1s rfl rfl) (by first | exact rfl | exact ⟨_, rfl, rfl, rfl⟩) rfl rfl (by decide) ?_)) | (apply z1g; (refine z05 (z13 rfl (by omega) (by omega) rfl) (by first | exact rfl | exact ⟨_, rfl, rfl, rfl⟩) rfl rfl (by decide) ?_)) | (apply z2c; (first | refine z05 (z11 (z99 (by omega) (by omega))) (by first | exact rfl | exact ⟨_, rfl, rfl, rfl⟩) rfl rfl (by decide) ?_ | refine z05 (z29 (z1n (by omega) (by omega))) (by first | exact rfl | exact ⟨_, rfl, rfl, rfl⟩) rfl rfl (by decide) ?_)) | (refine z1t rfl rfl (fun hg => ?_) (fun hg => ?_) <;> simp only [hg] <;> (try simp only [decide_eq_true_eq, decide_eq_false_iff_not, Bool.not_eq_true', Bool.not_eq_false'] at hg)))))
         all_goals try (exfalso; omega)
         all_goals exact z0o ih' rfl rfl
       · rw [if_neg hj] at ih'
         simp only at ih'
         repeat' (first | (apply z0c; (first | refine z0v rfl (by decide) ?_ | (apply z09; (first | refine z00 (z0g rfl rfl rfl rfl) rfl rfl (by decide) ?_ | refine z00 (z1i rfl rfl rfl) rfl rfl (by decide) ?_ | refine z00 (z0q rfl rfl) rfl rfl (by decide) ?_)) | (apply z0h; (first | refine z00 (z04 rfl rfl) rfl rfl (by decide) ?_ | refine z00 (z1s rfl rfl) rfl rfl (by decide) ?_)) | (apply z0n; (first | refine z00 (z0i (ys := l.map z2z) rfl (by omega) (idx hx) rfl) rfl rfl (by decide) ?_ | refine z00 (z0i (ys := cl.map fun x => [z2x x]) rfl (by omega) (zdt (g := fun x => [z2x x]) hk) rfl) rfl rfl (by decide) ?_ | refine z00 (z13 rfl (by omega) (by omega) rfl) rfl rfl (by decide) ?_)) | (apply z18; (first | refine z00 (z11 (z1n (by omega) (by omega))) rfl rfl (by decide) ?_ | refine z00 (z29 (z1n (by omega) (by omega))) rfl rfl (by decide) ?_)) | (apply z1a; (first | refine z00 (z6a rfl) rfl rfl (by decide) ?_ | refine z1u (g := z2z) rfl rfl (x.1, x.2.1, k) rfl rfl rfl rfl rfl rfl rfl (by decide) (by omega) ?_)) | (apply z0f; (first | refine z1v ((y.1, x.2.1, y.2.2) : Arc) rfl rfl rfl rfl hix rfl rfl rfl hse ?_ | refine z08 rfl rfl rfl rfl rfl rfl ?_)) | (apply z0l; (refine z07 (z0k rfl rfl (by decide)) ?_)) | (apply z0z; (refine z10 rfl rfl rfl rfl rfl rfl rfl (by decide) ?_)) | (apply z2j; (refine z2q rfl rfl rfl rfl rfl rfl rfl rfl (by decide) ?_)))) | (apply z0b; (first | refine z0u ?_ | apply z0a)) | (apply z0d; (first | apply z0e | apply z01 | refine z0m rfl ?_ | apply z06 | apply z02 | apply z3c | apply z03 | refine z1j rfl (fun _ => ?_) (fun _ => ?_) | refine z0j rfl ?_)) | (apply z3b; (first | (apply z1k; refine z2a mix (by kernel_rfl) ?_) | refine z2e rfl rfl (by decide) ?_ | refine z3g rfl (by first | exact rfl | exact ⟨_, rfl, rfl, rfl⟩) (by decide) ?_ | (apply z0x; (first | refine z05 (z19 (u := z5u y.2.1) hix rfl rfl rfl) (by first | exact rfl | exact ⟨_, rfl, rfl, rfl⟩) rfl rfl (by decide) ?_ | refine z05 (z19 (u := z2x y.2.2) hix rfl rfl rfl) (by first | exact rfl | exact ⟨_, rfl, rfl, rfl⟩) rfl rfl (by decide) ?_ | refine z05 (z0g rfl rfl rfl rfl) (by first | exact rfl | exact ⟨_, rfl, rfl, rfl⟩) rfl rfl (by decide) ?_)) | (apply z0w; (first | refine z05 (z04 rfl rfl) (by first | exact rfl | exact ⟨_, rfl, rfl, rfl⟩) rfl rfl (by decide) ?_ | refine z05 (z1s rfl rfl) (by first | exact rfl | exact ⟨_, rfl, rfl, rfl⟩) rfl rfl (by decide) ?_)) | (apply z1g; (refine z05 (z13 rfl (by omega) (by omega) rfl) (by first | exact rfl | exact ⟨_, rfl, rfl, rfl⟩) rfl rfl (by decide) ?_)) | (apply z2c; (first | refine z05 (z11 (z99 (by omega) (by omega))) (by first | exact rfl | exact ⟨_, rfl, rfl, rfl⟩) rfl rfl (by decide) ?_ | refine z05 (z29 (z1n (by omega) (by omega))) (by first | exact rfl | exact ⟨_, rfl, rfl, rfl⟩) rfl rfl (by decide) ?_)) | (refine z1t rfl rfl (fun hg => ?_) (fun hg => ?_) <;> simp only [hg] <;> (try simp only [decide_eq_true_eq, decide_eq_false_iff_not, Bool.not_eq_true', Bool.not_eq_false'] at hg)))))
         all_goals try (exfalso; omega)
         all_goals refine z2h 64 1000 rfl rfl ?_
         all_goals exact z0o ih' rfl rfl
 · obtain rfl : i = l.length := by omega
   rw [List.drop_length, List.foldl_nil] at i4
   rw [← i4]
   repeat' (first | (apply z0c; (refine z0v rfl (by decide) ?_)) | (apply z0b; (first | refine z0u ?_ | apply z0a)) | (apply z0d; (first | apply z0e | apply z01 | apply z06 | apply z02 | refine z1j rfl (fun _ => ?_) (fun _ => ?_) | refine z0j rfl ?_)))
   all_goals try (exfalso; omega)
   all_goals refine z1z 1000 rfl ?_
   all_goals exact z0r Tryz.func81 _ (z0p rfl rfl) ⟨rfl, rfl⟩
end Go.Proofs.YthdfkabdoidjfaaGreatDoor
namespace Go.Proofs.YthdfkabdoidjfaaGreatDoor
open Go.Ab Go.Ax Go.Rx
set_option maxHeartbeats 20000000
set_option maxRecDepth 100000
attribute [local irreducible] Run Ops Op1 z2f Val Tr z1f z2d NF Rel z47 z48
theorem zga (l : List Rg) (hl : l.length ≤ 9223372036854775807) (c : Int) : z1f Tryz.prog 62 [.d (rgs l), I .i32 c] (B (inB l c)) := by
 refine z1x fun H => ?_
 refine z0t Tryz.func62 (by kernel_rfl) rfl (by simp) ?_
 dsimp only [Tryz.f62]
 repeat' (first | (apply z0c; (first | refine z0v rfl (by decide) ?_ | (apply z1a; (refine z00 (z1r rfl) rfl rfl (by decide) ?_)))) | (apply z0b; (first | refine z0u ?_ | apply z0a)) | (apply z0d; (first | apply z0e | apply z01 | apply z02)))
 all_goals try (exfalso; omega)
 refine z1q ?_
 refine z0o (z2r (fun q : Nat => ⟨24, [(1, I .i32 c), (7, .d (rgs l)), (8, I .i64 l.length), (9, I .i64 (q : Nat))], [], H⟩) (fun q => q ≤ l.length ∧ inB (l.drop q) c = inB l c) (fun q => l.length - q) ?_ 0 ⟨Nat.zero_le _, rfl⟩) rfl rfl
 intro q ⟨i1, i2⟩ ih
 by_cases hlt : q < l.length
 · obtain ⟨r, hr⟩ : ∃ r, l[q]? = some r := ⟨_, List.getElem?_eq_getElem hlt⟩
   rw [drop_cons hr, inB, List.any_cons, ← inB] at i2
   by_cases hc : r.1 ≤ c ∧ c ≤ r.2
   · rw [decide_eq_true hc.1, decide_eq_true hc.2, Bool.true_and, Bool.true_or] at i2
     rw [← i2]
     repeat' (first | (apply z0c; (first | refine z0v rfl (by decide) ?_ | (apply z09; (first | refine z00 (z0g rfl rfl rfl rfl) rfl rfl (by decide) ?_ | refine z00 (z0q rfl rfl) rfl rfl (by decide) ?_)) | (apply z0h; (refine z00 (z04 rfl rfl) rfl rfl (by decide) ?_)) | (apply z0n; (refine z00 (z0i (ys := l.map rgc) rfl (by omega) (idx hr) rfl) rfl rfl (by decide) ?_)) | (apply z18; (refine z00 (z11 (z1n (by omega) (by omega))) rfl rfl (by decide) ?_)) | (apply z0f; (refine z08 rfl rfl rfl rfl rfl rfl ?_)) | (apply z0l; (refine z07 (z0k rfl rfl (by decide)) ?_)))) | (apply z0b; (first | refine z0u ?_ | apply z0a | refine z3v rfl rfl (by decide) ?_ | refine z1h rfl rfl (fun _ => ?_) (fun _ => ?_))) | (apply z0d; (first | apply z0e | apply z01 | refine z0m rfl ?_ | apply z06 | apply z02 | apply z03 | refine z1j rfl (fun _ => ?_) (fun _ => ?_) | refine z0j rfl ?_)))
     all_goals try (exfalso; omega)
     all_goals exact z0r Tryz.func62 _ (z0p rfl rfl) ⟨rfl, rfl⟩
   · have hf : (decide (r.1 ≤ c) && decide (c ≤ r.2)) = false := by
      rw [← Bool.decide_and]; exact decide_eq_false hc
     rw [hf, Bool.false_or] at i2
     repeat' (first | (apply z0c; (first | refine z0v rfl (by decide) ?_ | (apply z09; (first | refine z00 (z0g rfl rfl rfl rfl) rfl rfl (by decide) ?_ | refine z00 (z0q rfl rfl) rfl rfl (by decide) ?_)) | (apply z0h; (refine z00 (z04 rfl rfl) rfl rfl (by decide) ?_)) | (apply z0n; (refine z00 (z0i (ys := l.map rgc) rfl (by omega) (idx hr) rfl) rfl rfl (by decide) ?_)) | (apply z18; (refine z00 (z11 (z1n (by omega) (by omega))) rfl rfl (by decide) ?_)) | (apply z0f; (refine z08 rfl rfl rfl rfl rfl rfl ?_)) | (apply z0l; (refine z07 (z0k rfl rfl (by decide)) ?_)))) | (apply z0b; (first | refine z0u ?_ | apply z0a | refine z3v rfl rfl (by decide) ?_ | refine z1h rfl rfl (fun _ => ?_) (fun _ => ?_))) | (apply z0d; (first | apply z0e | apply z01 | refine z0m rfl ?_ | apply z06 | apply z02 | apply z03 | refine z1j rfl (fun _ => ?_) (fun _ => ?_) | refine z0j rfl ?_)))
     all_goals try (exfalso; omega)
     all_goals exact z0o (ih (q + 1) ⟨by omega, i2⟩ (by omega)) rfl rfl
 · obtain rfl : q = l.length := by omega
   rw [List.drop_length, inB, List.any_nil] at i2
   rw [← i2]
   repeat' (first | (apply z0c; (refine z0v rfl (by decide) ?_)) | (apply z0b; (first | refine z0u ?_ | apply z0a)) | (apply z0d; (first | apply z0e | apply z01 | apply z06 | apply z02 | refine z1j rfl (fun _ => ?_) (fun _ => ?_) | refine z0j rfl ?_)))
   all_goals try (exfalso; omega)
   all_goals exact z0r Tryz.func62 _ (z0p rfl rfl) ⟨rfl, rfl⟩
end Go.Proofs.YthdfkabdoidjfaaGreatDoor
namespace Go.Proofs.YthdfkabdoidjfaaGreatDoor
open Go.Ab Go.Ax Go.Rx
set_option maxHeartbeats 20000000
set_option maxRecDepth 100000
attribute [local irreducible] Run Ops Op1 z2f Val Tr z1f z2d NF Rel z47 z48
abbrev cps (s : ByteArray) (i : Nat) : List Int := (rst s i).map (·.r)
def zwc (a : Au) (s : ByteArray) : Bool := if vAu a = 0 ∧ zxw s = true then a.acc 0 (cps s 0) else false
theorem zr9 {a : Au} (hv : zy3 a) (k : Nat) (hk : k < a.F.length) (c : Int) : ∃ l, a.A[k]? = some l ∧ okA none l ∧ a.nx (k : Nat) c = nxt l c ∧ -1 ≤ nxt l c ∧ nxt l c < a.F.length := by
 obtain ⟨l, hl⟩ : ∃ l, a.A[k]? = some l := ⟨_, List.getElem?_eq_getElem (by rw [hv.len]; exact hk)⟩
 have hla := hv.arc l (List.mem_of_getElem? hl)
 refine ⟨l, hl, hla.1, by rw [Au.nx, Au.arcs, if_neg (by omega), Int.toNat_natCast, List.getD, hl]; rfl, zm1 (p := none) hla.1 c, ?_⟩
 have key : ∀ m : List Arc, (∀ x ∈ m, x.2.2 < a.F.length) → nxt m c < a.F.length := fun m => by
  induction m with
  | nil => intro _; simp only [nxt]; have := hv.pos; omega
  | cons x m ih =>
   intro h
   rw [nxt]
   split
   · exact h x (by simp)
   · exact ih fun y hy => h y (by simp [hy])
 exact key l fun x hx => (hla.2 x hx).2.2.2.2
theorem zub (s : ByteArray) (hs : s.size ≤ 1000000) : z1f Tryz.prog 40 [S s] (B (zxw s)) := by
 have h := zsd s hs
 rw [zqp] at h
 exact h
theorem zvl (a : Au) (hf : zjk a) (hl : ∀ l ∈ a.A, l.length ≤ 4611686018427387904) (s : ByteArray) (hs : s.size ≤ 1000000) : z1f Tryz.prog 19 [.d (auD a), S s] (B (zwc a s)) := by
 have hv := zbm a hf
 have hd := zub s hs
 refine z1x fun H => ?_
 rw [zwc]
 by_cases h0 : vAu a = 0
 · rw [h0] at hv
   by_cases h1 : zxw s = true
   · have hva := zmq h0
     rw [if_pos ⟨h0, h1⟩]
     rw [h1] at hd
     obtain ⟨F, A⟩ := a
     simp only at hl
     refine z0t Tryz.func19 (by kernel_rfl) rfl (by simp) ?_
     dsimp only [Tryz.f19]
     repeat' (first | (apply z0c; (first | refine z0v rfl (by decide) ?_ | (apply z09; (refine z00 (z2i rfl rfl rfl) rfl rfl (by decide) ?_)) | (apply z16; (first | refine z3l hv rfl (by decide) ?_ | refine z3l hd rfl (by decide) ?_)) | (apply z2b; (refine z07 (z2k rfl rfl rfl rfl rfl (by decide)) ?_)) | refine zfv rfl rfl rfl (by decide) ?_)) | (apply z0b; (first | refine z0u ?_ | apply z0a)) | (apply z0d; (first | apply z0e | apply z01 | refine z0m rfl ?_ | apply z06 | apply z02)))
     all_goals try (exfalso; omega)
     refine z1q ?_
     refine z0o (z2r (fun q : Nat × Nat => ⟨35, [(2, .ptr (0, 2) 0), (5, I .i64 (q.2 : Nat)), (17, .ptr (0, 17) 0)], [(17, .siter s q.1), (2, .box [.d (zmf F), .d (.slice (A.map z5x))])], H⟩) (fun q => q.1 ≤ s.size ∧ q.2 < F.length ∧ (⟨F, A⟩ : Au).acc (q.2 : Nat) (cps s q.1) = (⟨F, A⟩ : Au).acc 0 (cps s 0)) (fun q => s.size - q.1) ?_ (0, 0) ⟨Nat.zero_le _, hva.pos, rfl⟩) rfl rfl
     rintro ⟨q, k⟩ ⟨i1, i2, i3⟩ ih
     simp only at i1 i2 i3 ih ⊢
     by_cases hlt : q < s.size
     · have hd2 := ziz hlt
       have hw := zjp s q hlt
       rw [cps, hd2, List.map_cons, Au.acc_cons] at i3
       simp only at i3
       obtain ⟨l, hA, hlo, hnx, n0, n1⟩ := zr9 hva k i2 ((Utf8.decode s q).1 : Nat)
       simp only at hA n1
       rw [hnx] at i3
       have hst := zl5 l (hl l (List.mem_of_getElem? hA)) hlo ((Utf8.decode s q).1 : Nat)
       generalize nxt l ((Utf8.decode s q).1 : Nat) = r at *
       by_cases hr : r < 0
       · rw [Au.acc_neg _ _ hr] at i3
         rw [← i3]
         repeat' (first | (apply z0c; (first | refine z0v rfl (by decide) ?_ | (apply z09; (first | refine z00 (z0g rfl rfl rfl rfl) rfl rfl (by decide) ?_ | refine z00 (z1i rfl rfl rfl) rfl rfl (by decide) ?_)) | (apply z0h; (refine z00 (z04 rfl rfl) rfl rfl (by decide) ?_)) | (apply z0n; (refine z00 (z0i (ys := A.map z5x) rfl (by omega) (idx hA) rfl) rfl rfl (by decide) ?_)) | (apply z16; (refine z3l hst rfl (by decide) ?_)) | refine z4m hlt rfl rfl (by decide) ?_)) | (apply z0b; (first | refine z0u ?_ | apply z0a)) | (apply z0d; (first | apply z0e | apply z01 | refine z1d rfl ?_ | apply z06 | apply z02 | apply z03 | refine z1j rfl (fun _ => ?_) (fun _ => ?_))))
         all_goals try (exfalso; omega)
         all_goals exact z0r Tryz.func19 _ (z0p rfl rfl) ⟨rfl, rfl⟩
       · obtain ⟨r, rfl⟩ : ∃ r' : Nat, r = r' := ⟨r.toNat, by omega⟩
         have ih' := ih (q + (Utf8.decode s q).2, r) ⟨by simp only; omega, by simp only; omega, i3⟩ (by simp only; omega)
         repeat' (first | (apply z0c; (first | refine z0v rfl (by decide) ?_ | (apply z09; (first | refine z00 (z0g rfl rfl rfl rfl) rfl rfl (by decide) ?_ | refine z00 (z1i rfl rfl rfl) rfl rfl (by decide) ?_)) | (apply z0h; (refine z00 (z04 rfl rfl) rfl rfl (by decide) ?_)) | (apply z0n; (refine z00 (z0i (ys := A.map z5x) rfl (by omega) (idx hA) rfl) rfl rfl (by decide) ?_)) | (apply z16; (refine z3l hst rfl (by decide) ?_)) | refine z4m hlt rfl rfl (by decide) ?_)) | (apply z0b; (first | refine z0u ?_ | apply z0a)) | (apply z0d; (first | apply z0e | apply z01 | refine z1d rfl ?_ | refine z0m rfl ?_ | apply z06 | apply z02 | apply z03)))
         all_goals try (exfalso; omega)
         all_goals exact z0o ih' rfl rfl
     · rw [cps, zfi (by omega), List.map_nil, Au.acc_nil, Au.fin, if_neg (by omega), Int.toNat_natCast] at i3
       obtain ⟨b, hb⟩ : ∃ b, F[k]? = some b := ⟨_, List.getElem?_eq_getElem i2⟩
       simp only [List.getD, hb, Option.getD_some] at i3
       rw [← i3]
       repeat' (first | (apply z0c; (first | refine z0v rfl (by decide) ?_ | (apply z09; (first | refine z00 (z0g rfl rfl rfl rfl) rfl rfl (by decide) ?_ | refine z00 (z1i rfl rfl rfl) rfl rfl (by decide) ?_)) | (apply z0h; (refine z00 (z04 rfl rfl) rfl rfl (by decide) ?_)) | (apply z0n; (refine z00 (z0i (ys := F.map fun b => [zad b]) rfl (by omega) (idx (g := fun b => [zad b]) hb) rfl) rfl rfl (by decide) ?_)) | refine z6g hlt rfl rfl (by decide) ?_)) | (apply z0b; (first | refine z0u ?_ | apply z0a)) | (apply z0d; (first | apply z0e | apply z01 | refine z0m rfl ?_ | refine z0j rfl ?_)))
       all_goals try (exfalso; omega)
       all_goals exact z0r Tryz.func19 _ (z0p rfl rfl) ⟨rfl, rfl⟩
   · rw [if_neg (fun h => h1 h.2)]
     rw [Bool.not_eq_true] at h1
     rw [h1] at hd
     refine z0t Tryz.func19 (by kernel_rfl) rfl (by simp) ?_
     dsimp only [Tryz.f19]
     repeat' (first | (apply z0c; (first | refine z0v rfl (by decide) ?_ | (apply z09; (refine z00 (z2i rfl rfl rfl) rfl rfl (by decide) ?_)) | (apply z16; (first | refine z3l hv rfl (by decide) ?_ | refine z3l hd rfl (by decide) ?_)) | (apply z2b; (refine z07 (z2k rfl rfl rfl rfl rfl (by decide)) ?_)))) | (apply z0b; (first | refine z0u ?_ | apply z0a)) | (apply z0d; (first | apply z0e | apply z01 | refine z1d rfl ?_)))
     all_goals try (exfalso; omega)
     all_goals exact z0r Tryz.func19 _ (z0p rfl rfl) ⟨rfl, rfl⟩
 · rw [if_neg (fun h => h0 h.1)]
   generalize vAu a = v at *
   refine z0t Tryz.func19 (by kernel_rfl) rfl (by simp) ?_
   dsimp only [Tryz.f19]
   repeat' (first | (apply z0c; (first | refine z0v rfl (by decide) ?_ | (apply z09; (refine z00 (z2i rfl rfl rfl) rfl rfl (by decide) ?_)) | (apply z16; (first | refine z3l hv rfl (by decide) ?_ | refine z3l hd rfl (by decide) ?_)) | (apply z2b; (refine z07 (z2k rfl rfl rfl rfl rfl (by decide)) ?_)))) | (apply z0b; (first | refine z0u ?_ | apply z0a | refine z3v rfl rfl (by decide) ?_ | refine z9y rfl rfl (fun _ => ?_) (fun _ => ?_))) | (apply z0d; (first | apply z0e | apply z01 | refine z1d rfl ?_ | apply z06 | refine zcn rfl (fun _ => ?_) (fun _ => ?_))))
   all_goals try (exfalso; omega)
   all_goals exact z0r Tryz.func19 _ (z0p rfl rfl) ⟨rfl, rfl⟩
end Go.Proofs.YthdfkabdoidjfaaGreatDoor
