/- A part of the proof: G33. -/
import Derived.Test.YtjmbjgecfpggdaaGreatDoorRv
set_option linter.all false
set_option linter.unusedVariables false
set_option linter.unusedSimpArgs false
namespace Go.Proofs.YtjmbjgecfpggdaaGreatDoor
open Go.Ab Go.Rx
set_option maxHeartbeats 20000000
set_option maxRecDepth 100000
attribute [local irreducible] Run Ops Op1 z2r Val Tr z1n z36 NF Rel z5q z5r zad
theorem zn2 (l : List Rg) (hl : l.length ≤ 9223372036854775807) : z1n Tryz.prog 54 [.d (rgs l)] (B (za3 l)) := by
 refine z1u fun H => ?_
 refine z16 Tryz.func54 (by kernel_rfl) rfl (by simp) ?_
 dsimp only [Tryz.f54]
 repeat' (first | (apply z0e; (first | refine z13 rfl (by decide) ?_ | (apply z1k; (refine z00 (z1p rfl) rfl rfl (by decide) ?_)))) | (apply z0f; (first | refine z0z ?_ | apply z0c)) | (apply z0d; (first | apply z0h | apply z01 | apply z02)))
 all_goals try (exfalso; omega)
 refine z2b ?_
 refine z0y (z3e (fun q : Nat × Int => ⟨47, [(0, .d (rgs l)), (5, .d (rgs l)), (6, I .i64 l.length), (7, I .i64 (q.1 : Nat))], [], H⟩) (fun q => q.1 ≤ l.length ∧ prv l q.1 q.2 ∧ z6v q.2 (l.drop q.1) = z6v 0 l) (fun q => l.length - q.1) ?_ (0, 0) ⟨Nat.zero_le _, .inl ⟨rfl, rfl⟩, rfl⟩) rfl rfl
 rintro ⟨i, a⟩ ⟨i1, i2, i3⟩ ih
 simp only at i1 i2 i3 ih ⊢
 by_cases hlt : i < l.length
 · obtain ⟨r, hr⟩ : ∃ r, l[i]? = some r := ⟨_, List.getElem?_eq_getElem hlt⟩
   rw [zcx hr] at i3
   by_cases hgd : a ≤ r.1 ∧ r.1 ≤ r.2 ∧ r.2 ≤ 1114111
   · rw [decide_eq_true hgd.1, decide_eq_true hgd.2.1, decide_eq_true hgd.2.2, Bool.true_and, Bool.true_and, Bool.true_and] at i3
     rcases i2 with ⟨rfl, rfl⟩ | ⟨hi, p, hp, rfl, hp0, hp1⟩
     · repeat' (first | (apply z0e; (first | refine z13 rfl (by decide) ?_ | (apply z09; (refine z00 (z0w rfl rfl) rfl rfl (by decide) ?_)) | (apply z1c; (refine z00 (z0t (ys := l.map rgc) rfl (by omega) (idx hr) rfl) rfl rfl (by decide) ?_)) | (apply z19; (refine z00 (z1e (z1s (by omega) (by omega))) rfl rfl (by decide) ?_)) | (apply z1k; (refine z00 (z1p rfl) rfl rfl (by decide) ?_)) | (apply z0i; (refine z0b rfl rfl rfl rfl rfl rfl ?_)) | (apply z0q; (refine z0j (z0p rfl rfl (by decide)) ?_)))) | (apply z0f; (first | refine z0z ?_ | apply z0c)) | (apply z0d; (first | apply z0h | apply z01 | refine z0o rfl ?_ | refine z0g rfl ?_ | apply z06 | apply z02 | apply z3w | apply z04 | refine z1o rfl (fun _ => ?_) (fun _ => ?_) | refine z0r rfl ?_)) | (apply z3x; (first | (apply z1v; refine z2o mix (by kernel_rfl) ?_) | refine z3u rfl rfl (by decide) ?_ | refine z6r rfl rfl (by decide) ?_ | refine z47 rfl (by first | exact rfl | exact ⟨_, rfl, rfl, rfl⟩) (by decide) ?_ | (apply z1g; (refine z0n (z0k rfl rfl rfl rfl) (by first | exact rfl | exact ⟨_, rfl, rfl, rfl⟩) rfl rfl (by decide) ?_)) | (apply z1b; (refine z0n (z03 rfl rfl) (by first | exact rfl | exact ⟨_, rfl, rfl, rfl⟩) rfl rfl (by decide) ?_)) | (refine z2n rfl rfl (fun hg => ?_) (fun hg => ?_) <;> simp only [hg] <;> (try simp only [decide_eq_true_eq, decide_eq_false_iff_not, Bool.not_eq_true', Bool.not_eq_false'] at hg)))))
       all_goals try (exfalso; omega)
       all_goals exact z0y (ih (1, r.2 + 2) ⟨by simp only; omega, .inr ⟨by simp, r, hr, rfl, by omega, hgd.2.2⟩, i3⟩ (by simp only; omega)) rfl rfl
     · have hp' : l[((i : Int) - 1).toNat]? = some p := by rw [← hp]; congr 1; omega
       repeat' (first | (apply z0e; (first | refine z13 rfl (by decide) ?_ | (apply z09; (refine z00 (z0w rfl rfl) rfl rfl (by decide) ?_)) | (apply z1c; (refine z00 (z0t (ys := l.map rgc) rfl (by omega) (idx hr) rfl) rfl rfl (by decide) ?_)) | (apply z19; (refine z00 (z1e (z1s (by omega) (by omega))) rfl rfl (by decide) ?_)) | (apply z1k; (refine z00 (z1p rfl) rfl rfl (by decide) ?_)) | (apply z0i; (refine z0b rfl rfl rfl rfl rfl rfl ?_)) | (apply z0q; (refine z0j (z0p rfl rfl (by decide)) ?_)))) | (apply z0f; (first | refine z0z ?_ | apply z0c)) | (apply z0d; (first | apply z0h | apply z01 | refine z0o rfl ?_ | refine z0g rfl ?_ | apply z06 | apply z02 | apply z3w | apply z04 | refine z1o rfl (fun _ => ?_) (fun _ => ?_) | refine z0r rfl ?_)) | (apply z3x; (first | (apply z1v; refine z2o mix (by kernel_rfl) ?_) | refine z3u rfl rfl (by decide) ?_ | refine z6r rfl rfl (by decide) ?_ | refine z47 rfl (by first | exact rfl | exact ⟨_, rfl, rfl, rfl⟩) (by decide) ?_ | (apply z1g; (first | refine z0n (z0k rfl rfl rfl rfl) (by first | exact rfl | exact ⟨_, rfl, rfl, rfl⟩) rfl rfl (by decide) ?_ | refine z0n (z2q rfl rfl rfl) (by first | exact rfl | exact ⟨_, rfl, rfl, rfl⟩) rfl rfl (by decide) ?_)) | (apply z1b; (first | refine z0n (z03 rfl rfl) (by first | exact rfl | exact ⟨_, rfl, rfl, rfl⟩) rfl rfl (by decide) ?_ | refine z0n (z3f rfl rfl) (by first | exact rfl | exact ⟨_, rfl, rfl, rfl⟩) rfl rfl (by decide) ?_)) | (apply z1w; (refine z0n (z0t (ys := l.map rgc) rfl (by omega) (zep hp') rfl) (by first | exact rfl | exact ⟨_, rfl, rfl, rfl⟩) rfl rfl (by decide) ?_)) | (apply z4y; (first | refine z0n (z1e (za5 (by omega) (by omega))) (by first | exact rfl | exact ⟨_, rfl, rfl, rfl⟩) rfl rfl (by decide) ?_ | refine z0n (z4a (z1s (by omega) (by omega))) (by first | exact rfl | exact ⟨_, rfl, rfl, rfl⟩) rfl rfl (by decide) ?_)) | (refine z2n rfl rfl (fun hg => ?_) (fun hg => ?_) <;> simp only [hg] <;> (try simp only [decide_eq_true_eq, decide_eq_false_iff_not, Bool.not_eq_true', Bool.not_eq_false'] at hg)))))
       all_goals try (exfalso; omega)
       all_goals exact z0y (ih (i + 1, r.2 + 2) ⟨by simp only; omega, .inr ⟨by simp, r, by simpa using hr, rfl, by omega, hgd.2.2⟩, i3⟩ (by simp only; omega)) rfl rfl
   · have hb : za3 l = false := by
      rw [za3, ← i3]
      have : (decide (a ≤ r.1) && decide (r.1 ≤ r.2) && decide (r.2 ≤ 1114111)) = false := by
       rw [← Bool.decide_and, ← Bool.decide_and, decide_eq_false_iff_not]
       exact fun h => hgd ⟨h.1.1, h.1.2, h.2⟩
      rw [this]; rfl
     rw [hb]
     rcases i2 with ⟨rfl, rfl⟩ | ⟨hi, p, hp, rfl, hp0, hp1⟩
     · repeat' (first | (apply z0e; (first | refine z13 rfl (by decide) ?_ | (apply z09; (refine z00 (z0w rfl rfl) rfl rfl (by decide) ?_)) | (apply z1c; (refine z00 (z0t (ys := l.map rgc) rfl (by omega) (idx hr) rfl) rfl rfl (by decide) ?_)) | (apply z19; (refine z00 (z1e (z1s (by omega) (by omega))) rfl rfl (by decide) ?_)) | (apply z1k; (refine z00 (z1p rfl) rfl rfl (by decide) ?_)) | (apply z0i; (refine z0b rfl rfl rfl rfl rfl rfl ?_)) | (apply z0q; (refine z0j (z0p rfl rfl (by decide)) ?_)))) | (apply z0f; (first | refine z0z ?_ | apply z0c)) | (apply z0d; (first | apply z0h | apply z01 | refine z0o rfl ?_ | refine z0g rfl ?_ | apply z06 | apply z02 | apply z3w | apply z04 | refine z1o rfl (fun _ => ?_) (fun _ => ?_) | refine z0r rfl ?_)) | (apply z3x; (first | (apply z1v; refine z2o mix (by kernel_rfl) ?_) | refine z3u rfl rfl (by decide) ?_ | refine z6r rfl rfl (by decide) ?_ | refine z47 rfl (by first | exact rfl | exact ⟨_, rfl, rfl, rfl⟩) (by decide) ?_ | (apply z1g; (refine z0n (z0k rfl rfl rfl rfl) (by first | exact rfl | exact ⟨_, rfl, rfl, rfl⟩) rfl rfl (by decide) ?_)) | (apply z1b; (refine z0n (z03 rfl rfl) (by first | exact rfl | exact ⟨_, rfl, rfl, rfl⟩) rfl rfl (by decide) ?_)) | (refine z2n rfl rfl (fun hg => ?_) (fun hg => ?_) <;> simp only [hg] <;> (try simp only [decide_eq_true_eq, decide_eq_false_iff_not, Bool.not_eq_true', Bool.not_eq_false'] at hg)))))
       all_goals try (exfalso; omega)
       all_goals exact z07 Tryz.func54 _ (z0a rfl rfl) ⟨rfl, rfl⟩
     · have hp' : l[((i : Int) - 1).toNat]? = some p := by rw [← hp]; congr 1; omega
       repeat' (first | (apply z0e; (first | refine z13 rfl (by decide) ?_ | (apply z09; (refine z00 (z0w rfl rfl) rfl rfl (by decide) ?_)) | (apply z1c; (refine z00 (z0t (ys := l.map rgc) rfl (by omega) (idx hr) rfl) rfl rfl (by decide) ?_)) | (apply z19; (refine z00 (z1e (z1s (by omega) (by omega))) rfl rfl (by decide) ?_)) | (apply z1k; (refine z00 (z1p rfl) rfl rfl (by decide) ?_)) | (apply z0i; (refine z0b rfl rfl rfl rfl rfl rfl ?_)) | (apply z0q; (refine z0j (z0p rfl rfl (by decide)) ?_)))) | (apply z0f; (first | refine z0z ?_ | apply z0c)) | (apply z0d; (first | apply z0h | apply z01 | refine z0o rfl ?_ | refine z0g rfl ?_ | apply z06 | apply z02 | apply z3w | apply z04 | refine z1o rfl (fun _ => ?_) (fun _ => ?_) | refine z0r rfl ?_)) | (apply z3x; (first | (apply z1v; refine z2o mix (by kernel_rfl) ?_) | refine z3u rfl rfl (by decide) ?_ | refine z6r rfl rfl (by decide) ?_ | refine z47 rfl (by first | exact rfl | exact ⟨_, rfl, rfl, rfl⟩) (by decide) ?_ | (apply z1g; (first | refine z0n (z0k rfl rfl rfl rfl) (by first | exact rfl | exact ⟨_, rfl, rfl, rfl⟩) rfl rfl (by decide) ?_ | refine z0n (z2q rfl rfl rfl) (by first | exact rfl | exact ⟨_, rfl, rfl, rfl⟩) rfl rfl (by decide) ?_)) | (apply z1b; (first | refine z0n (z03 rfl rfl) (by first | exact rfl | exact ⟨_, rfl, rfl, rfl⟩) rfl rfl (by decide) ?_ | refine z0n (z3f rfl rfl) (by first | exact rfl | exact ⟨_, rfl, rfl, rfl⟩) rfl rfl (by decide) ?_)) | (apply z1w; (refine z0n (z0t (ys := l.map rgc) rfl (by omega) (zep hp') rfl) (by first | exact rfl | exact ⟨_, rfl, rfl, rfl⟩) rfl rfl (by decide) ?_)) | (apply z4y; (first | refine z0n (z1e (za5 (by omega) (by omega))) (by first | exact rfl | exact ⟨_, rfl, rfl, rfl⟩) rfl rfl (by decide) ?_ | refine z0n (z4a (z1s (by omega) (by omega))) (by first | exact rfl | exact ⟨_, rfl, rfl, rfl⟩) rfl rfl (by decide) ?_)) | (refine z2n rfl rfl (fun hg => ?_) (fun hg => ?_) <;> simp only [hg] <;> (try simp only [decide_eq_true_eq, decide_eq_false_iff_not, Bool.not_eq_true', Bool.not_eq_false'] at hg)))))
       all_goals try (exfalso; omega)
       all_goals exact z07 Tryz.func54 _ (z0a rfl rfl) ⟨rfl, rfl⟩
 · obtain rfl : i = l.length := by omega
   rw [List.drop_length, z6v] at i3
   rw [za3, ← i3, Bool.true_and]
   repeat' (first | (apply z0e; (first | refine z13 rfl (by decide) ?_ | (apply z1k; (refine z00 (z1p rfl) rfl rfl (by decide) ?_)))) | (apply z0f; (first | refine z0z ?_ | apply z0c)) | (apply z0d; (first | apply z0h | apply z01 | apply z06 | apply z02 | refine z1o rfl (fun _ => ?_) (fun _ => ?_) | refine z0r rfl ?_)))
   all_goals try (exfalso; omega)
   refine z07 Tryz.func54 _ (z0a rfl rfl) ⟨?_, rfl⟩
   congr 3; simp
theorem zes : ∀ (e : Rx), fit e → vns e = true → z1n Tryz.prog 39 [.d (Drx e)] (I .i64 (ps 1048576 e)) := by
 refine Rx.ind' fun op mn mx rs ks ih hfit hv => ?_
 obtain ⟨hf1, hf2, hf3⟩ := hfit
 rw [vns, Bool.and_eq_true] at hv
 refine z1u fun H => ?_
 refine z16 Tryz.func39 (by kernel_rfl) rfl (by simp) ?_
 rw [Drx, z2j, ps]
 dsimp only [Tryz.f39]
 by_cases o1 : op = 1
 · rw [if_pos o1]
   repeat' (first | (apply z0e; (first | refine z13 rfl (by decide) ?_ | (apply z09; (refine z00 (z0k rfl rfl rfl rfl) rfl rfl (by decide) ?_)) | (apply z08; (refine z00 (z03 rfl rfl) rfl rfl (by decide) ?_)) | (apply z1k; (refine z00 (z1p rfl) rfl rfl (by decide) ?_)) | (apply z1y; (refine z0j (z3b rfl rfl rfl rfl rfl (by decide)) ?_)))) | (apply z0f; (first | refine z0z ?_ | apply z0c)) | (apply z0d; (first | apply z0h | apply z01 | apply z06 | apply z02 | refine z1o rfl (fun _ => ?_) (fun _ => ?_))))
   all_goals try (exfalso; omega)
   exact z07 Tryz.func39 _ (z0a rfl rfl) ⟨rfl, rfl⟩
 rw [if_neg o1]
 repeat' (first | (apply z0e; (first | refine z13 rfl (by decide) ?_ | (apply z09; (refine z00 (z0k rfl rfl rfl rfl) rfl rfl (by decide) ?_)) | (apply z08; (refine z00 (z03 rfl rfl) rfl rfl (by decide) ?_)) | (apply z1k; (refine z00 (z1p rfl) rfl rfl (by decide) ?_)) | (apply z1y; (refine z0j (z3b rfl rfl rfl rfl rfl (by decide)) ?_)))) | (apply z0f; (first | refine z0z ?_ | apply z0c)) | (apply z0d; (first | apply z0h | apply z01 | apply z06 | apply z02 | refine z1o rfl (fun _ => ?_) (fun _ => ?_))))
 all_goals try (exfalso; omega)
 refine z2b ?_
 refine z0y (z3e (fun q : Nat × Int => ⟨39, [(1, .ptr (0, 1) 0), (3, I .i64 q.2), (10, .d (.slice (ks.map rxc))), (11, I .i64 ks.length), (12, I .i64 (q.1 : Nat))], [(1, .box ((rx5 op mn mx rs ks).map .d))], H⟩) (fun q => q.1 ≤ ks.length ∧ 0 ≤ q.2 ∧ q.2 ≤ 1048576 ∧ psL 1048576 (ks.drop q.1) q.2 = psL 1048576 ks 0) (fun q => ks.length - q.1) ?_ (0, 0) ⟨Nat.zero_le _, by simp, by simp, rfl⟩) rfl rfl
 rintro ⟨i, a⟩ ⟨i1, i2, i3, i4⟩ ihl
 simp only at i1 i2 i3 i4 ihl ⊢
 by_cases hlt : i < ks.length
 · obtain ⟨k, hk⟩ : ∃ k, ks[i]? = some k := ⟨_, List.getElem?_eq_getElem hlt⟩
   have hkv := z3t hv.2 k (List.mem_of_getElem? hk)
   have c := ih k (List.mem_of_getElem? hk) (z3o hf3 k (List.mem_of_getElem? hk)) hkv
   have hr := zpe (C := 1048576) (by decide) k hkv
   rw [zhl hk] at i4
   generalize ps 1048576 k = pk at c hr i4
   obtain ⟨op', mn', mx', rs', ks'⟩ := k
   have hk' := z3l hk
   rw [Drx, z2j] at c
   repeat' (first | (apply z0e; (first | refine z13 rfl (by decide) ?_ | (apply z09; (first | refine z00 (z0k rfl rfl rfl rfl) rfl rfl (by decide) ?_ | refine z00 (z0w rfl rfl) rfl rfl (by decide) ?_ | refine z00 (z1a rfl rfl rfl rfl) rfl rfl (by decide) ?_)) | (apply z08; (refine z00 (z03 rfl rfl) rfl rfl (by decide) ?_)) | (apply z1c; (refine z00 (z0t (ys := ks.map rxc) rfl (by omega) hk' rfl) rfl rfl (by decide) ?_)) | (apply z19; (first | refine z00 (z1e (z1s (by omega) (by omega))) rfl rfl (by decide) ?_ | refine z00 (zah (z1s (by omega) (by omega))) rfl rfl (by decide) ?_)) | (apply z1k; (first | refine z00 zfi rfl rfl (by decide) ?_ | refine z00 zak rfl rfl (by decide) ?_)) | (apply z0l; (refine z1z c rfl (by decide) ?_)) | (apply z0i; (refine z0b rfl rfl rfl rfl rfl rfl ?_)) | (apply z0q; (refine z0j (z0p rfl rfl (by decide)) ?_)))) | (apply z0f; (first | refine z0z ?_ | apply z0c)) | (apply z0d; (first | apply z0h | apply z01 | apply z06 | apply z02 | apply z04 | refine z1o rfl (fun _ => ?_) (fun _ => ?_) | refine z0r rfl ?_)))
   all_goals try (exfalso; omega)
   exact z0y (ihl (i + 1, min (a + pk) 1048576) ⟨by simp only; omega, by simp only; omega, by simp only; omega, i4⟩ (by simp only; omega)) rfl rfl
 · obtain rfl : i = ks.length := by omega
   rw [List.drop_length, psL] at i4
   subst i4
   by_cases o4 : op = 4
   · rw [if_pos o4]
     rcases z43 hv.1 with h | h | h | ⟨_, _, _, h1, h2, h3⟩
     · exact absurd (h.1.symm.trans o4) (by decide)
     · exact absurd (h.1.symm.trans o4) (by decide)
     · exact absurd (h.1.symm.trans o4) (by decide)
     have m1 : (psL 1048576 ks 0) * max mn 1 ≤ 1048576 * 16 := Int.mul_le_mul i3 (by omega) (by omega) (by decide)
     have m2 : 0 ≤ (psL 1048576 ks 0) * max mn 1 := Int.mul_nonneg i2 (by omega)
     have m3 : mx ≠ -1 → (psL 1048576 ks 0) * mx ≤ 1048576 * 16 := fun h => Int.mul_le_mul i3 (by omega) (by omega) (by decide)
     have m4 : mx ≠ -1 → 0 ≤ (psL 1048576 ks 0) * mx := fun h => Int.mul_nonneg i2 (by omega)
     rw [rep]
     by_cases hm : mx = -1
     · rw [if_pos hm]
       repeat' (first | (apply z0e; (first | refine z13 rfl (by decide) ?_ | (apply z09; (refine z00 (z0k rfl rfl rfl rfl) rfl rfl (by decide) ?_)) | (apply z08; (refine z00 (z03 rfl rfl) rfl rfl (by decide) ?_)) | (apply z19; (refine z00 (zah (z1s (by omega) (by omega))) rfl rfl (by decide) ?_)) | (apply z1k; (first | refine z00 zfi rfl rfl (by decide) ?_ | refine z00 zak rfl rfl (by decide) ?_)))) | (apply z0f; (first | refine z0z ?_ | apply z0c)) | (apply z0d; (first | apply z0h | apply z01 | apply z06 | apply z02 | refine z1o rfl (fun _ => ?_) (fun _ => ?_) | refine z0r rfl ?_)))
       all_goals try (exfalso; omega)
       exact z07 Tryz.func39 _ (z0a rfl rfl) ⟨rfl, rfl⟩
     · rw [if_neg hm]
       have m5 := m3 hm
       have m6 := m4 hm
       repeat' (first | (apply z0e; (first | refine z13 rfl (by decide) ?_ | (apply z09; (refine z00 (z0k rfl rfl rfl rfl) rfl rfl (by decide) ?_)) | (apply z08; (refine z00 (z03 rfl rfl) rfl rfl (by decide) ?_)) | (apply z19; (refine z00 (zah (z1s (by omega) (by omega))) rfl rfl (by decide) ?_)) | (apply z1k; (first | refine z00 zfi rfl rfl (by decide) ?_ | refine z00 zak rfl rfl (by decide) ?_)))) | (apply z0f; (first | refine z0z ?_ | apply z0c)) | (apply z0d; (first | apply z0h | apply z01 | apply z06 | apply z02 | refine z1o rfl (fun _ => ?_) (fun _ => ?_) | refine z0r rfl ?_)))
       all_goals try (exfalso; omega)
       exact z07 Tryz.func39 _ (z0a rfl rfl) ⟨rfl, rfl⟩
   · rw [if_neg o4]
     repeat' (first | (apply z0e; (first | refine z13 rfl (by decide) ?_ | (apply z09; (refine z00 (z0k rfl rfl rfl rfl) rfl rfl (by decide) ?_)) | (apply z08; (refine z00 (z03 rfl rfl) rfl rfl (by decide) ?_)) | (apply z19; (refine z00 (zah (z1s (by omega) (by omega))) rfl rfl (by decide) ?_)) | (apply z1k; (first | refine z00 zfi rfl rfl (by decide) ?_ | refine z00 zak rfl rfl (by decide) ?_)))) | (apply z0f; (first | refine z0z ?_ | apply z0c)) | (apply z0d; (first | apply z0h | apply z01 | apply z06 | apply z02 | refine z1o rfl (fun _ => ?_) (fun _ => ?_) | refine z0r rfl ?_)))
     all_goals try (exfalso; omega)
     refine z07 Tryz.func39 _ (z0a rfl rfl) ⟨?_, rfl⟩
     rw [Int.min_eq_left i3]
theorem zvm : (∀ (e : Rx) (d : Int), 1 ≤ d → d ≤ 41 → (sh e d).1 ≤ 200 * (41 - d) + 1 ∧ (sh e d).2.1 ≤ 41) ∧ ∀ (l : List Rx) (d : Int) (s : Sh3), 1 ≤ d → d ≤ 41 → s.1 ≤ 200 * (42 - d) + 1 → s.2.1 ≤ 41 → (shL l d s).1 ≤ 200 * (42 - d) + 1 ∧ (shL l d s).2.1 ≤ 41 := by
 refine Rx.ind (fun op mn mx rs ks ih d h1 h2 => ?_) (fun d s h1 h2 h3 h4 => ⟨by rw [shL]; exact h3, by rw [shL]; exact h4⟩) (fun k ks hk ih d s h1 h2 h3 h4 => ?_)
 · rw [sh]
   split
   · simp only; omega
   · have := ih (d + 1) (1, d, vn (.mk op mn mx rs ks)) (by omega) (by omega) (by simp only; omega) (by simp only; omega)
     omega
 · rw [shL]
   split
   · exact ⟨h3, h4⟩
   · have := hk d h1 h2
     exact ih d _ h1 h2 (by simp only; omega) (by simp only; omega)
abbrev shv (s : Sh3) : PV := .tup [I .i64 s.1, I .i64 s.2.1, B s.2.2]
theorem zqr : ∀ (e : Rx), fit e → ∀ d : Int, 1 ≤ d → d ≤ 41 → z1n Tryz.prog 38 [.d (Drx e), I .i64 d] (shv (sh e d)) := by
 refine Rx.ind' fun op mn mx rs ks ih hfit d hd1 hd2 => ?_
 obtain ⟨hf1, hf2, hf3⟩ := hfit
 rw [z2h]
 refine z1u fun H => ?_
 refine z16 Tryz.func38 (by kernel_rfl) rfl (by simp) ?_
 dsimp only [Tryz.f38]
 rw [sh]
 by_cases h40 : 40 < d
 · rw [if_pos h40]
   repeat' (first | (apply z0e; (first | refine z13 rfl (by decide) ?_ | (apply z09; (refine z00 (z0k rfl rfl rfl rfl) rfl rfl (by decide) ?_)) | (apply z08; (refine z00 (z03 rfl rfl) rfl rfl (by decide) ?_)) | (apply z1k; (refine z00 (z1p rfl) rfl rfl (by decide) ?_)) | (apply z1y; (refine z0j (z27 rfl rfl (by decide)) ?_)))) | (apply z0f; (first | refine z0z ?_ | apply z0c | refine z2e rfl rfl (by decide) ?_ | refine z5u rfl rfl (by decide) ?_ | refine z0u rfl rfl (fun _ => ?_) (fun _ => ?_))) | (apply z0d; (first | apply z0h | apply z01 | apply z06 | apply z02 | apply z04 | refine z1o rfl (fun _ => ?_) (fun _ => ?_))))
   all_goals try (exfalso; omega)
   all_goals exact z07 Tryz.func38 _ (z11 rfl rfl rfl rfl) ⟨rfl, rfl⟩
 rw [if_neg h40]
 obtain ⟨F, hF⟩ : ∃ F, shL ks (d + 1) (1, d, vn (.mk op mn mx rs ks)) = F := ⟨_, rfl⟩
 rw [hF]
 repeat' (first | (apply z0e; (first | refine z13 rfl (by decide) ?_ | (apply z1y; (refine z0j (z27 rfl rfl (by decide)) ?_)))) | (apply z0f; (first | refine z0z ?_ | apply z0c)) | (apply z0d; (first | (refine zaa (A := .seq (.region 4 _ _) _) ?_) | apply z0h | apply z01 | apply z06 | refine z1o rfl (fun _ => ?_) (fun _ => ?_))))
 all_goals try (exfalso; omega)
 refine z89 (zuw (st0 := ⟨164, [(1, I .i64 d), (2, .ptr (0, 2) 0), (7, I .i64 1), (8, I .i64 d), (9, B (vn (.mk op mn mx rs ks)))], [(2, .box ((rx5 op mn mx rs ks).map .d))], H⟩) ?_ (fun hj => ?_))
 · repeat' (first | (apply z0e; (first | refine z13 rfl (by decide) ?_ | (apply z09; (refine z00 (z0k rfl rfl rfl rfl) rfl rfl (by decide) ?_)) | (apply z08; (refine z00 (z03 rfl rfl) rfl rfl (by decide) ?_)) | (apply z1k; (refine z00 (z1p rfl) rfl rfl (by decide) ?_)))) | (apply z0f; (first | refine z0z ?_ | apply z0c)) | (apply z0d; (first | apply z0h | apply z01 | apply z02)))
   all_goals try (exfalso; omega)
   refine z2b ?_
   refine z0y (z3e (fun q : Nat × Sh3 => ⟨164, [(1, I .i64 d), (7, I .i64 q.2.1), (8, I .i64 q.2.2.1), (9, B q.2.2.2), (134, .d (.slice (ks.map rxc))), (135, I .i64 ks.length), (136, I .i64 (q.1 : Nat))], [], H⟩)
    (fun q => q.1 ≤ ks.length ∧ shL (ks.drop q.1) (d + 1) q.2 = F ∧ 1 ≤ q.2.1 ∧ q.2.1 ≤ 10000 ∧ 1 ≤ q.2.2.1 ∧ q.2.2.1 ≤ 41) (fun q => ks.length - q.1) ?_ (0, 1, d, vn (.mk op mn mx rs ks)) ⟨Nat.zero_le _, hF, by simp only; omega, by simp only; omega, hd1, by simp only; omega⟩) rfl rfl
   rintro ⟨i, m, c, b⟩ ⟨i1, i2, i3, i4, i5, i6⟩ ihl
   simp only at i1 i2 i3 i4 i5 i6 ihl ⊢
   by_cases hlt : i < ks.length
   · obtain ⟨k, hk⟩ : ∃ k, ks[i]? = some k := ⟨_, List.getElem?_eq_getElem hlt⟩
     rw [drop_cons hk, shL] at i2
     by_cases hm : 200 < m
     · rw [if_pos hm] at i2
       subst i2
       obtain ⟨op', mn', mx', rs', ks'⟩ := k
       repeat' (first | (apply z0e; (first | refine z13 rfl (by decide) ?_ | (apply z09; (first | refine z00 (z0w rfl rfl) rfl rfl (by decide) ?_ | refine z00 (z1a rfl rfl rfl rfl) rfl rfl (by decide) ?_)) | (apply z1c; (refine z00 (z0t (ys := ks.map rxc) rfl (by omega) (z3l hk) rfl) rfl rfl (by decide) ?_)) | (apply z19; (refine z00 (z1e (z1s (by omega) (by omega))) rfl rfl (by decide) ?_)) | (apply z0i; (refine z0b rfl rfl rfl rfl rfl rfl ?_)) | (apply z0q; (refine z0j (z0p rfl rfl (by decide)) ?_)))) | (apply z0f; (first | refine z0z ?_ | apply z0c)) | (apply z0d; (first | apply z0h | apply z01 | apply z06 | apply z02 | refine z1o rfl (fun _ => ?_) (fun _ => ?_) | refine z0r rfl ?_)))
       all_goals try (exfalso; omega)
       all_goals exact z07 Tryz.func38 _ (z11 rfl rfl rfl rfl) ⟨rfl, rfl⟩
     · rw [if_neg hm] at i2
       have hc := ih k (List.mem_of_getElem? hk) (z3o hf3 k (List.mem_of_getElem? hk)) (d + 1) (by omega) (by omega)
       have hbd := zvm.1 k (d + 1) (by omega) (by omega)
       have hmo := zg6.1 k (d + 1)
       generalize sh k (d + 1) = S at *
       obtain ⟨S1, S2, S3⟩ := S
       simp only at hbd hmo i2
       obtain ⟨op', mn', mx', rs', ks'⟩ := k
       rw [z2h] at hc
       have ihl' := ihl (i + 1, m + S1, max c S2, b && S3) ⟨by simp only; omega, i2, by simp only; omega, by simp only; omega, by simp only; omega, by simp only; omega⟩ (by simp only; omega)
       cases b with
       | true =>
        rw [Bool.true_and] at ihl'
        repeat' (first | (apply z0e; (first | refine z13 rfl (by decide) ?_ | (apply z09; (first | refine z00 (z0w rfl rfl) rfl rfl (by decide) ?_ | refine z00 (z1a rfl rfl rfl rfl) rfl rfl (by decide) ?_)) | (apply z1c; (refine z00 (z0t (ys := ks.map rxc) rfl (by omega) (z3l hk) rfl) rfl rfl (by decide) ?_)) | (apply z19; (refine z00 (z1e (z1s (by omega) (by omega))) rfl rfl (by decide) ?_)) | (apply z1k; (refine z00 zak rfl rfl (by decide) ?_)) | (apply z0l; (refine z1z hc rfl (by decide) ?_)) | (apply z0i; (refine z0b rfl rfl rfl rfl rfl rfl ?_)) | (apply z0q; (refine z0j (z0p rfl rfl (by decide)) ?_)))) | (apply z0f; (first | refine z0z ?_ | apply z0c)) | (apply z0d; (first | apply z0h | apply z01 | apply z06 | apply z02 | apply z04 | refine z1o rfl (fun _ => ?_) (fun _ => ?_) | refine z0r rfl ?_)))
        all_goals try (exfalso; omega)
        all_goals exact z0y ihl' rfl rfl
       | false =>
        rw [Bool.false_and] at ihl'
        repeat' (first | (apply z0e; (first | refine z13 rfl (by decide) ?_ | (apply z09; (first | refine z00 (z0w rfl rfl) rfl rfl (by decide) ?_ | refine z00 (z1a rfl rfl rfl rfl) rfl rfl (by decide) ?_)) | (apply z1c; (refine z00 (z0t (ys := ks.map rxc) rfl (by omega) (z3l hk) rfl) rfl rfl (by decide) ?_)) | (apply z19; (refine z00 (z1e (z1s (by omega) (by omega))) rfl rfl (by decide) ?_)) | (apply z1k; (refine z00 zak rfl rfl (by decide) ?_)) | (apply z0l; (refine z1z hc rfl (by decide) ?_)) | (apply z0i; (refine z0b rfl rfl rfl rfl rfl rfl ?_)) | (apply z0q; (refine z0j (z0p rfl rfl (by decide)) ?_)))) | (apply z0f; (first | refine z0z ?_ | apply z0c | refine z2e rfl rfl (by decide) ?_)) | (apply z0d; (first | apply z0h | apply z01 | apply z06 | apply z02 | apply z04 | refine z1o rfl (fun _ => ?_) (fun _ => ?_) | refine z0r rfl ?_)))
        all_goals try (exfalso; omega)
        all_goals exact z0y ihl' rfl rfl
   · obtain rfl : i = ks.length := by omega
     rw [List.drop_length, shL] at i2
     subst i2
     repeat' (first | (apply z0e; (refine z13 rfl (by decide) ?_)) | (apply z0f; (first | refine z0z ?_ | apply z0c)) | (apply z0d; (first | apply z0h | apply z01 | apply z06 | apply z02 | refine z1o rfl (fun _ => ?_) (fun _ => ?_) | refine z0r rfl ?_)))
     all_goals try (exfalso; omega)
     all_goals exact z07 Tryz.func38 _ (z11 rfl rfl rfl rfl) ⟨rfl, rfl⟩
 by_cases o1 : op = 1
 · subst o1
   have hra := zn2 rs hf1
   repeat' (first | (apply z0e; (first | refine z13 rfl (by decide) ?_ | (apply z09; (refine z00 (z0k rfl rfl rfl rfl) rfl rfl (by decide) ?_)) | (apply z08; (refine z00 (z03 rfl rfl) rfl rfl (by decide) ?_)) | (apply z1k; (refine z00 (z1p rfl) rfl rfl (by decide) ?_)) | (apply z0l; (refine z1z hra rfl (by decide) ?_)))) | (apply z0f; (first | refine z0z ?_ | apply z0c | refine z2e rfl rfl (by decide) ?_ | refine z0u rfl rfl (fun _ => ?_) (fun _ => ?_))) | (apply z0d; (first | (refine zaa (A := .seq (.region 18 _ _) _) ?_) | apply z0h | apply z01 | refine z0o rfl ?_ | apply z02 | apply z04)))
   all_goals try (exfalso; omega)
   all_goals refine z89 (zif 9 (vn (.mk 1 mn mx rs ks)) rfl (by rw [vn, if_pos rfl]; simp_all [-List.length_eq_zero_iff] <;> omega) ?_)
   all_goals exact z0y hj rfl rfl
 by_cases o23 : op = 2 ∨ op = 3
 · repeat' (first | (apply z0e; (first | refine z13 rfl (by decide) ?_ | (apply z09; (refine z00 (z0k rfl rfl rfl rfl) rfl rfl (by decide) ?_)) | (apply z08; (refine z00 (z03 rfl rfl) rfl rfl (by decide) ?_)) | (apply z1k; (refine z00 (z1p rfl) rfl rfl (by decide) ?_)))) | (apply z0f; (first | refine z0z ?_ | apply z0c | refine z2e rfl rfl (by decide) ?_ | refine z5u rfl rfl (by decide) ?_ | refine z0u rfl rfl (fun _ => ?_) (fun _ => ?_))) | (apply z0d; (first | (refine zaa (A := .seq (.region 18 _ _) _) ?_) | apply z0h | apply z01 | apply z06 | apply z02 | apply z04 | refine z1o rfl (fun _ => ?_) (fun _ => ?_))))
   all_goals try (exfalso; omega)
   all_goals refine zif 9 (decide (mn = 0) && decide (mx = 0) && decide (rs.length = 0) && (if op = 2 then !decide (ks.length = 1) else decide (1 < ks.length))) rfl (by rw [Bool.eq_iff_iff]; rcases o23 with rfl | rfl <;> simp_all [-List.length_eq_zero_iff] <;> omega) ?_
   all_goals (
    obtain ⟨b0, hb0⟩ : ∃ b0, (decide (mn = 0) && decide (mx = 0) && decide (rs.length = 0) && (if op = 2 then !decide (ks.length = 1) else decide (1 < ks.length))) = b0 := ⟨_, rfl⟩
    have hvn : vn (.mk op mn mx rs ks) = (b0 && z5j op ks) := by
     rw [vn, ← hb0]
     rcases o23 with rfl | rfl <;> simp
    rw [hb0]
    refine z2b ?_
    refine z0y (z3e (fun q : Nat => ⟨164, [(1, I .i64 d), (2, .ptr (0, 2) 0), (7, I .i64 1), (8, I .i64 d), (9, B (b0 && z5j op (ks.take q))), (79, .d (.slice (ks.map rxc))), (80, I .i64 ks.length), (81, I .i64 (q : Nat))], [(2, .box ((rx5 op mn mx rs ks).map .d))], H⟩) (fun q => q ≤ ks.length) (fun q => ks.length - q) ?_ 0 (Nat.zero_le _)) (by rw [List.take_zero]; cases b0 <;> rfl) rfl
    intro q i1 ihq
    by_cases hlt : q < ks.length
    · obtain ⟨k, hk⟩ : ∃ k, ks[q]? = some k := ⟨_, List.getElem?_eq_getElem hlt⟩
      have hkt := zb6 (op := op) hk
      have ihq' := ihq (q + 1) (by omega) (by omega)
      rw [hkt] at ihq'
      obtain ⟨op', mn', mx', rs', ks'⟩ := k
      generalize z5j op (ks.take q) = bq at *
      change Run _ _ _ _ ⟨164, [(1, I .i64 d), (2, .ptr (0, 2) 0), (7, I .i64 1), (8, I .i64 d), (9, B (b0 && (bq && !decide (op' = op)))), (79, .d (.slice (ks.map rxc))), (80, I .i64 ks.length), (81, I .i64 ((q + 1 : Nat) : Int))], [(2, .box ((rx5 op mn mx rs ks).map .d))], H⟩ at ihq'
      rw [← Bool.and_assoc] at ihq'
      generalize (b0 && bq) = bb at *
      cases bb with
      | true =>
       rw [Bool.true_and] at ihq'
       repeat' (first | (apply z0e; (first | refine z13 rfl (by decide) ?_ | (apply z09; (first | refine z00 (z0k rfl rfl rfl rfl) rfl rfl (by decide) ?_ | refine z00 (z0w rfl rfl) rfl rfl (by decide) ?_)) | (apply z08; (refine z00 (z03 rfl rfl) rfl rfl (by decide) ?_)) | (apply z1c; (refine z00 (z0t (ys := ks.map rxc) rfl (by omega) (z3l hk) rfl) rfl rfl (by decide) ?_)) | (apply z19; (refine z00 (z1e (z1s (by omega) (by omega))) rfl rfl (by decide) ?_)) | (apply z1k; (refine z00 (z1p rfl) rfl rfl (by decide) ?_)) | (apply z0i; (refine z0b rfl rfl rfl rfl rfl rfl ?_)) | (apply z0q; (refine z0j (z0p rfl rfl (by decide)) ?_)))) | (apply z0f; (first | refine z0z ?_ | apply z0c)) | (apply z0d; (first | apply z0h | apply z01 | apply z06 | apply z02 | apply z04 | refine z1o rfl (fun _ => ?_) (fun _ => ?_) | refine z0r rfl ?_)))
       all_goals try (exfalso; omega)
       all_goals exact z0y ihq' rfl rfl
      | false =>
       rw [Bool.false_and] at ihq'
       repeat' (first | (apply z0e; (first | refine z13 rfl (by decide) ?_ | (apply z09; (first | refine z00 (z0k rfl rfl rfl rfl) rfl rfl (by decide) ?_ | refine z00 (z0w rfl rfl) rfl rfl (by decide) ?_)) | (apply z08; (refine z00 (z03 rfl rfl) rfl rfl (by decide) ?_)) | (apply z1c; (refine z00 (z0t (ys := ks.map rxc) rfl (by omega) (z3l hk) rfl) rfl rfl (by decide) ?_)) | (apply z19; (refine z00 (z1e (z1s (by omega) (by omega))) rfl rfl (by decide) ?_)) | (apply z1k; (refine z00 (z1p rfl) rfl rfl (by decide) ?_)) | (apply z0i; (refine z0b rfl rfl rfl rfl rfl rfl ?_)) | (apply z0q; (refine z0j (z0p rfl rfl (by decide)) ?_)))) | (apply z0f; (first | refine z0z ?_ | apply z0c | refine z2e rfl rfl (by decide) ?_)) | (apply z0d; (first | apply z0h | apply z01 | apply z06 | apply z02 | apply z04 | refine z1o rfl (fun _ => ?_) (fun _ => ?_) | refine z0r rfl ?_)))
       all_goals try (exfalso; omega)
       all_goals exact z0y ihq' rfl rfl
    · obtain rfl : q = ks.length := by omega
      rw [List.take_length, ← hvn]
      clear ihq
      repeat' (first | (apply z0e; (refine z13 rfl (by decide) ?_)) | (apply z0f; (first | refine z0z ?_ | apply z0c)) | (apply z0d; (first | (refine zaa (A := .seq (.region 18 _ _) _) ?_) | apply z0h | apply z01 | apply z06 | apply z02 | apply z04 | refine z1o rfl (fun _ => ?_) (fun _ => ?_) | refine z0r rfl ?_)))
      all_goals try (exfalso; omega)
      all_goals exact z89 (z0y hj rfl rfl)
    )
 by_cases o4 : op = 4
 · subst o4
   repeat' (first | (apply z0e; (first | refine z13 rfl (by decide) ?_ | (apply z09; (refine z00 (z0k rfl rfl rfl rfl) rfl rfl (by decide) ?_)) | (apply z08; (refine z00 (z03 rfl rfl) rfl rfl (by decide) ?_)) | (apply z1k; (refine z00 (z1p rfl) rfl rfl (by decide) ?_)))) | (apply z0f; (first | refine z0z ?_ | apply z0c | refine z2e rfl rfl (by decide) ?_ | refine z5u rfl rfl (by decide) ?_ | refine z0u rfl rfl (fun _ => ?_) (fun _ => ?_))) | (apply z0d; (first | (refine zaa (A := .seq (.region 18 _ _) _) ?_) | apply z0h | apply z01 | refine z0o rfl ?_ | refine z0g rfl ?_ | apply z02 | apply z04)))
   all_goals try (exfalso; omega)
   all_goals refine z89 (zif 9 (vn (.mk 4 mn mx rs ks)) rfl (by rw [vn, if_neg (by decide), if_neg (by decide), if_neg (by decide), if_pos rfl]; simp_all [-List.length_eq_zero_iff] <;> omega) ?_)
   all_goals exact z0y hj rfl rfl
 · have hvn : vn (.mk op mn mx rs ks) = false := by rw [vn, if_neg o1, if_neg (by omega), if_neg (by omega), if_neg o4]
   repeat' (first | (apply z0e; (first | refine z13 rfl (by decide) ?_ | (apply z09; (refine z00 (z0k rfl rfl rfl rfl) rfl rfl (by decide) ?_)) | (apply z08; (refine z00 (z03 rfl rfl) rfl rfl (by decide) ?_)) | (apply z1k; (refine z00 (z1p rfl) rfl rfl (by decide) ?_)))) | (apply z0f; (first | refine z0z ?_ | apply z0c | refine z2e rfl rfl (by decide) ?_ | refine z5u rfl rfl (by decide) ?_ | refine z0u rfl rfl (fun _ => ?_) (fun _ => ?_))) | (apply z0d; (first | (refine zaa (A := .seq (.region 18 _ _) _) ?_) | apply z0h | apply z01 | apply z06 | apply z02 | apply z04 | refine z1o rfl (fun _ => ?_) (fun _ => ?_))))
   all_goals try (exfalso; omega)
   all_goals refine z89 (zif 9 (vn (.mk op mn mx rs ks)) rfl (by rw [hvn]) ?_)
   all_goals exact z0y hj rfl rfl
end Go.Proofs.YtjmbjgecfpggdaaGreatDoor
