/- A part of the proof: Z3. -/
import Derived.Test.YtjmbjgecfpggdaaGreatDoorM2
import Derived.Test.YtjmbjgecfpggdaaGreatDoorRc
set_option linter.all false
set_option linter.unusedVariables false
set_option linter.unusedSimpArgs false
namespace Go.Proofs.YtjmbjgecfpggdaaGreatDoor
open Go.Ab Go.Rx
set_option maxHeartbeats 20000000
set_option maxRecDepth 100000
attribute [local irreducible] Run Ops Op1 z2r Val Tr z1n z36 NF Rel z5q z5r
theorem z5f (op mn mx : Int) (rs : List Rg) (ks : List Rx) : Drx (.mk op mn mx rs ks) = .agg (rx5 op mn mx rs ks) := congrArg D.agg (z2j op mn mx rs ks)
theorem zs5 (l : List Rg) (h : za3 l = true) : z1n Tryz.prog 47 [.d (rgs l)] (S (txE (z7w l))) := by
 refine z1u fun H => ?_
 have hm := zde h
 have hlen := zdx h
 have hfs := (z2m (z7w l)).2
 have hfl := zg3 l
 have h0 : 0 < l.length := by rw [za3, Bool.and_eq_true, decide_eq_true_eq] at h; exact h.2
 have hL0 : ∀ r l', l = r :: l' → r.2 = 1114111 → l'.length = 0 := fun r l' e hr => by
  subst e
  rw [za3, Bool.and_eq_true, z6v, Bool.and_eq_true, Bool.and_eq_true, Bool.and_eq_true] at h
  have := zb3 l' (r.2 + 2) (by omega) h.1.2
  omega
 clear h
 obtain ⟨r, l', rfl⟩ : ∃ r l', l = r :: l' := by
  cases l with
  | nil => simp at h0
  | cons r l' => exact ⟨r, l', rfl⟩
 have hL0 := hL0 r l' rfl
 have hr0 : (r :: l')[((0 : Int)).toNat]? = some r := rfl
 have hr := hm r (by simp)
 have hcs : (r :: l').length = l'.length + 1 := rfl
 refine z16 Tryz.func47 (by kernel_rfl) rfl (by simp) ?_
 dsimp only [Tryz.f47]
 have hfs' : ([91] ++ (r :: l').flatMap z4q ++ [93] : List Int).length ≤ 3000000 := by
  have := z9u (r :: l')
  rw [List.length_append, List.length_append]; simp only [List.length_cons, List.length_nil] at *; omega
 have sa : ∀ a b : ByteArray, (a ++ b).size = a.size + b.size := fun a b => by simp
 have z1 : (⟨#[45]⟩ : ByteArray).size = 1 := rfl
 have z2 : (⟨#[93]⟩ : ByteArray).size = 1 := rfl
 by_cases c1 : l'.length = 0 ∧ r.1 = 0 ∧ r.2 = 1114111
 · rw [z7w, if_pos c1.2]
   repeat' (first | (apply z0e; (first | refine z13 rfl (by decide) ?_ | (apply z09; (refine z00 (z2q rfl rfl rfl) rfl rfl (by decide) ?_)) | (apply z08; (refine z00 (z3f rfl rfl) rfl rfl (by decide) ?_)) | (apply z1c; (refine z00 (z0t (ys := (r :: l').map rgc) rfl (by omega) (zep hr0) rfl) rfl rfl (by decide) ?_)) | (apply z1k; (refine z00 (z1p rfl) rfl rfl (by decide) ?_)))) | (apply z0f; (first | refine z0z ?_ | apply z0c | refine z2e rfl rfl (by decide) ?_ | refine z0u rfl rfl (fun _ => ?_) (fun _ => ?_))) | (apply z0d; (first | apply z0h | apply z01 | refine z0g rfl ?_ | apply z06 | apply z02 | apply z3w | refine z1o rfl (fun _ => ?_) (fun _ => ?_))) | (apply z3x; (first | (apply z1v; refine z2o mix (by kernel_rfl) ?_) | refine z3u rfl rfl (by decide) ?_ | refine z47 rfl (by first | exact rfl | exact ⟨_, rfl, rfl, rfl⟩) (by decide) ?_ | (apply z1g; (refine z0n (z2q rfl rfl rfl) (by first | exact rfl | exact ⟨_, rfl, rfl, rfl⟩) rfl rfl (by decide) ?_)) | (apply z1b; (refine z0n (z3f rfl rfl) (by first | exact rfl | exact ⟨_, rfl, rfl, rfl⟩) rfl rfl (by decide) ?_)) | (apply z1w; (refine z0n (z0t (ys := (r :: l').map rgc) rfl (by omega) (zep hr0) rfl) (by first | exact rfl | exact ⟨_, rfl, rfl, rfl⟩) rfl rfl (by decide) ?_)) | (apply z4h; (refine z0n (z1p rfl) (by first | exact rfl | exact ⟨_, rfl, rfl, rfl⟩) rfl rfl (by decide) ?_)) | (refine z2n rfl rfl (fun hg => ?_) (fun hg => ?_) <;> simp only [hg] <;> (try simp only [decide_eq_true_eq, decide_eq_false_iff_not, Bool.not_eq_true', Bool.not_eq_false'] at hg)))))
   all_goals try (exfalso; omega)
   all_goals exact z07 Tryz.func47 _ (z0a rfl rfl) ⟨rfl, rfl⟩
 by_cases c2 : l'.length = 0 ∧ r.1 = r.2
 · obtain rfl : l' = [] := List.eq_nil_of_length_eq_zero c2.1
   have hq := zef zug r.1
   rw [z7w, if_neg (fun h => c1 ⟨rfl, h⟩), if_pos c2]
   repeat' (first | (apply z0e; (first | refine z13 rfl (by decide) ?_ | (apply z09; (refine z00 (z2q rfl rfl rfl) rfl rfl (by decide) ?_)) | (apply z08; (refine z00 (z3f rfl rfl) rfl rfl (by decide) ?_)) | (apply z1c; (refine z00 (z0t (ys := [r].map rgc) rfl (by omega) (zep hr0) rfl) rfl rfl (by decide) ?_)) | (apply z1k; (refine z00 (z1p rfl) rfl rfl (by decide) ?_)) | (apply z0l; (refine z1z hq rfl (by decide) ?_)))) | (apply z0f; (first | refine z0z ?_ | apply z0c | refine z2e rfl rfl (by decide) ?_ | refine z0u rfl rfl (fun _ => ?_) (fun _ => ?_))) | (apply z0d; (first | apply z0h | apply z01 | refine z0g rfl ?_ | apply z06 | apply z02 | apply z3w | refine z1o rfl (fun _ => ?_) (fun _ => ?_))) | (apply z3x; (first | (apply z1v; refine z2o mix (by kernel_rfl) ?_) | refine z47 rfl (by first | exact rfl | exact ⟨_, rfl, rfl, rfl⟩) (by decide) ?_ | (apply z1g; (refine z0n (z2q rfl rfl rfl) (by first | exact rfl | exact ⟨_, rfl, rfl, rfl⟩) rfl rfl (by decide) ?_)) | (apply z1b; (refine z0n (z3f rfl rfl) (by first | exact rfl | exact ⟨_, rfl, rfl, rfl⟩) rfl rfl (by decide) ?_)) | (apply z1w; (refine z0n (z0t (ys := [r].map rgc) rfl (by omega) (zep hr0) rfl) (by first | exact rfl | exact ⟨_, rfl, rfl, rfl⟩) rfl rfl (by decide) ?_)) | (apply z4h; (refine z0n (z1p rfl) (by first | exact rfl | exact ⟨_, rfl, rfl, rfl⟩) rfl rfl (by decide) ?_)))))
   all_goals try (exfalso; omega)
   all_goals exact z07 Tryz.func47 _ (z0a rfl rfl) ⟨rfl, rfl⟩
 have hL : z7w (r :: l') = [91] ++ (r :: l').flatMap z4q ++ [93] := by
  rw [z7w, if_neg (fun h => c1 ⟨hL0 h.2, h⟩), if_neg c2]
 rw [hL]
 have hcl : 1 < (r :: l').length ∨ (r.1 ≠ r.2 ∧ ¬ (r.1 = 0 ∧ r.2 = 1114111)) := by
  rw [hcs]
  by_cases h3 : l'.length = 0
  · exact .inr ⟨fun h => c2 ⟨h3, h⟩, fun h => c1 ⟨h3, h⟩⟩
  · left; omega
 clear hL hfs hfl hcs hr hL0
 generalize (r :: l') = L at *
 rw [show txE ([91] ++ L.flatMap z4q ++ [93]) = txE ([91] ++ L.flatMap z4q) ++ (⟨#[93]⟩ : ByteArray) by rw [z1q]; rfl]
 repeat' (first | (apply z0e; (first | refine z13 rfl (by decide) ?_ | (apply z09; (refine z00 (z2q rfl rfl rfl) rfl rfl (by decide) ?_)) | (apply z08; (refine z00 (z3f rfl rfl) rfl rfl (by decide) ?_)) | (apply z1c; (refine z00 (z0t (ys := L.map rgc) rfl (by omega) (zep hr0) rfl) rfl rfl (by decide) ?_)) | (apply z1k; (refine z00 (z1p rfl) rfl rfl (by decide) ?_)))) | (apply z0f; (first | refine z0z ?_ | apply z0c | refine z2e rfl rfl (by decide) ?_ | refine z0u rfl rfl (fun _ => ?_) (fun _ => ?_))) | (apply z0d; (first | apply z0h | apply z01 | refine z0g rfl ?_ | apply z06 | apply z02 | apply z3w | refine z1o rfl (fun _ => ?_) (fun _ => ?_))) | (apply z3x; (first | (apply z1v; refine z2o mix (by kernel_rfl) ?_) | refine z3u rfl rfl (by decide) ?_ | refine z47 rfl (by first | exact rfl | exact ⟨_, rfl, rfl, rfl⟩) (by decide) ?_ | (apply z1g; (refine z0n (z2q rfl rfl rfl) (by first | exact rfl | exact ⟨_, rfl, rfl, rfl⟩) rfl rfl (by decide) ?_)) | (apply z1b; (refine z0n (z3f rfl rfl) (by first | exact rfl | exact ⟨_, rfl, rfl, rfl⟩) rfl rfl (by decide) ?_)) | (apply z1w; (refine z0n (z0t (ys := L.map rgc) rfl (by omega) (zep hr0) rfl) (by first | exact rfl | exact ⟨_, rfl, rfl, rfl⟩) rfl rfl (by decide) ?_)) | (apply z4h; (refine z0n (z1p rfl) (by first | exact rfl | exact ⟨_, rfl, rfl, rfl⟩) rfl rfl (by decide) ?_)) | (refine z2n rfl rfl (fun hg => ?_) (fun hg => ?_) <;> simp only [hg] <;> (try simp only [decide_eq_true_eq, decide_eq_false_iff_not, Bool.not_eq_true', Bool.not_eq_false'] at hg)))))
 all_goals try (exfalso; omega)
 all_goals (
  refine z2b ?_
  refine z0y (z3e (fun q : Nat => ⟨74, [(3, S (txE ([91] ++ (L.take q).flatMap z4q))), (42, .d (rgs L)), (43, I .i64 L.length), (44, I .i64 (q : Nat))], [], H⟩) (fun q => q ≤ L.length) (fun q => L.length - q) ?_ 0 (Nat.zero_le _)) rfl rfl
  intro i i1 ih
  have hsz := (z2m ([91] ++ (L.take i).flatMap z4q)).2
  have hsz2 : ([91] ++ (L.take i).flatMap z4q : List Int).length ≤ 3000000 := by
   have := z9u (L.take i)
   rw [List.length_append, List.length_cons, List.length_nil]
   have := List.length_take_le i L
   omega
  by_cases hlt : i < L.length
  · obtain ⟨x, hx⟩ : ∃ x, L[i]? = some x := ⟨_, List.getElem?_eq_getElem hlt⟩
    have hxm := hm x (List.mem_of_getElem? hx)
    have c1 := zef zrw x.1
    have c2 := zef zrw x.2
    have z3 := (z2m (quo spC x.1)).2
    have z4 := (z2m (quo spC x.2)).2
    have z5 := z8i spC x.1
    have z6 := z8i spC x.2
    have ih' := ih (i + 1) (by omega) (by omega)
    have hst : txE ([91] ++ (L.take (i + 1)).flatMap z4q) = txE ([91] ++ (L.take i).flatMap z4q) ++ txE (z4q x) := by
     rw [z4r hx, List.flatMap_append, List.flatMap_cons, List.flatMap_nil, List.append_nil, ← List.append_assoc, z1q]
    by_cases d1 : x.1 + 1 < x.2
    · rw [hst, show txE (z4q x) = (txE (quo spC x.1) ++ ⟨#[45]⟩) ++ txE (quo spC x.2) by rw [z4q, if_pos d1, if_pos (by omega), z1q, z1q]; rfl, ← ByteArray.append_assoc (a := txE ([91] ++ (L.take i).flatMap z4q)), ← ByteArray.append_assoc (a := txE ([91] ++ (L.take i).flatMap z4q))] at ih'
      repeat' (first | (apply z0e; (first | refine z13 rfl (by decide) ?_ | (apply z09; (first | refine z00 (z0k rfl rfl rfl rfl) rfl rfl (by decide) ?_ | refine z00 (z0w rfl rfl) rfl rfl (by decide) ?_)) | (apply z08; (refine z00 (z03 rfl rfl) rfl rfl (by decide) ?_)) | (apply z1c; (refine z00 (z0t (ys := L.map rgc) rfl (by omega) (idx hx) rfl) rfl rfl (by decide) ?_)) | (apply z19; (first | refine z00 (z1e (za5 (by omega) (by omega))) rfl rfl (by decide) ?_ | refine z00 (z1e (z1s (by omega) (by omega))) rfl rfl (by decide) ?_)) | (apply z0l; (first | refine z1z c1 rfl (by decide) ?_ | refine z1z c2 rfl (by decide) ?_)) | (apply z0i; (refine z0b rfl rfl rfl rfl rfl rfl ?_)) | (apply z0q; (refine z0j (z0p rfl rfl (by decide)) ?_)) | refine z00 (z29 (by (try simp only [sa]); omega)) rfl rfl (by decide) ?_)) | (apply z0f; (first | refine z0z ?_ | apply z0c)) | (apply z0d; (first | apply z0h | apply z01 | apply z06 | apply z02 | apply z04 | refine z1o rfl (fun _ => ?_) (fun _ => ?_) | refine z0r rfl ?_)))
      all_goals try (exfalso; omega)
      all_goals exact z0y ih' rfl rfl
    · by_cases d2 : x.1 < x.2
      · rw [hst, show txE (z4q x) = txE (quo spC x.1) ++ txE (quo spC x.2) by rw [z4q, if_neg d1, if_pos d2, List.append_nil, z1q], ← ByteArray.append_assoc (a := txE ([91] ++ (L.take i).flatMap z4q))] at ih'
        repeat' (first | (apply z0e; (first | refine z13 rfl (by decide) ?_ | (apply z09; (first | refine z00 (z0k rfl rfl rfl rfl) rfl rfl (by decide) ?_ | refine z00 (z0w rfl rfl) rfl rfl (by decide) ?_)) | (apply z08; (refine z00 (z03 rfl rfl) rfl rfl (by decide) ?_)) | (apply z1c; (refine z00 (z0t (ys := L.map rgc) rfl (by omega) (idx hx) rfl) rfl rfl (by decide) ?_)) | (apply z19; (first | refine z00 (z1e (za5 (by omega) (by omega))) rfl rfl (by decide) ?_ | refine z00 (z1e (z1s (by omega) (by omega))) rfl rfl (by decide) ?_)) | (apply z0l; (first | refine z1z c1 rfl (by decide) ?_ | refine z1z c2 rfl (by decide) ?_)) | (apply z0i; (refine z0b rfl rfl rfl rfl rfl rfl ?_)) | (apply z0q; (refine z0j (z0p rfl rfl (by decide)) ?_)) | refine z00 (z29 (by (try simp only [sa]); omega)) rfl rfl (by decide) ?_)) | (apply z0f; (first | refine z0z ?_ | apply z0c)) | (apply z0d; (first | apply z0h | apply z01 | apply z06 | apply z02 | apply z04 | refine z1o rfl (fun _ => ?_) (fun _ => ?_) | refine z0r rfl ?_)))
        all_goals try (exfalso; omega)
        all_goals exact z0y ih' rfl rfl
      · rw [hst, show txE (z4q x) = txE (quo spC x.1) by rw [z4q, if_neg d1, if_neg d2, List.append_nil, List.append_nil]] at ih'
        repeat' (first | (apply z0e; (first | refine z13 rfl (by decide) ?_ | (apply z09; (first | refine z00 (z0k rfl rfl rfl rfl) rfl rfl (by decide) ?_ | refine z00 (z0w rfl rfl) rfl rfl (by decide) ?_)) | (apply z08; (refine z00 (z03 rfl rfl) rfl rfl (by decide) ?_)) | (apply z1c; (refine z00 (z0t (ys := L.map rgc) rfl (by omega) (idx hx) rfl) rfl rfl (by decide) ?_)) | (apply z19; (first | refine z00 (z1e (za5 (by omega) (by omega))) rfl rfl (by decide) ?_ | refine z00 (z1e (z1s (by omega) (by omega))) rfl rfl (by decide) ?_)) | (apply z0l; (first | refine z1z c1 rfl (by decide) ?_ | refine z1z c2 rfl (by decide) ?_)) | (apply z0i; (refine z0b rfl rfl rfl rfl rfl rfl ?_)) | (apply z0q; (refine z0j (z0p rfl rfl (by decide)) ?_)) | refine z00 (z29 (by (try simp only [sa]); omega)) rfl rfl (by decide) ?_)) | (apply z0f; (first | refine z0z ?_ | apply z0c)) | (apply z0d; (first | apply z0h | apply z01 | apply z06 | apply z02 | apply z04 | refine z1o rfl (fun _ => ?_) (fun _ => ?_) | refine z0r rfl ?_)))
        all_goals try (exfalso; omega)
        all_goals exact z0y ih' rfl rfl
  · obtain rfl : i = L.length := by omega
    rw [List.take_length] at *
    repeat' (first | (apply z0e; (first | refine z13 rfl (by decide) ?_ | refine z00 (z29 (by (try simp only [sa]); omega)) rfl rfl (by decide) ?_)) | (apply z0f; (first | refine z0z ?_ | apply z0c)) | (apply z0d; (first | apply z0h | apply z01 | apply z06 | apply z02 | refine z1o rfl (fun _ => ?_) (fun _ => ?_) | refine z0r rfl ?_)))
    all_goals try (exfalso; omega)
    all_goals exact z07 Tryz.func47 _ (z0a rfl rfl) ⟨rfl, rfl⟩)
theorem zio : ∀ e : Rx, fit e → z1n Tryz.prog 26 [.d (Drx e)] (B (wrt e)) := by
 refine Rx.ind' fun op mn mx rs ks ih hfit => ?_
 obtain ⟨hf1, hf2, hf3⟩ := hfit
 rw [z5f, wrt]
 refine z1u fun H => ?_
 refine z16 Tryz.func26 (by kernel_rfl) rfl (by simp) ?_
 dsimp only [Tryz.f26]
 repeat' (first | (apply z0e; (first | refine z13 rfl (by decide) ?_ | (apply z09; (refine z00 (z0k rfl rfl rfl rfl) rfl rfl (by decide) ?_)) | (apply z08; (refine z00 (z03 rfl rfl) rfl rfl (by decide) ?_)) | (apply z1k; (refine z00 (z1p rfl) rfl rfl (by decide) ?_)) | (apply z1y; (refine z0j (z3b rfl rfl rfl rfl rfl (by decide)) ?_)))) | (apply z0f; (first | refine z0z ?_ | apply z0c)) | (apply z0d; (first | apply z0h | apply z01 | apply z02)))
 all_goals try (exfalso; omega)
 refine z2b ?_
 refine z0y (z3e (fun q : Nat => ⟨44, [(1, .ptr (0, 1) 0), (8, .d (rgs rs)), (9, I .i64 rs.length), (10, I .i64 (q : Nat))], [(1, .box ((rx5 op mn mx rs ks).map .d))], H⟩) (fun q => q ≤ rs.length ∧ (rs.drop q).any txl = rs.any txl) (fun q => rs.length - q) ?_ 0 ⟨Nat.zero_le _, rfl⟩) rfl rfl
 rintro i ⟨i1, i2⟩ ihl
 by_cases hlt : i < rs.length
 · obtain ⟨r, hr⟩ : ∃ r, rs[i]? = some r := ⟨_, List.getElem?_eq_getElem hlt⟩
   rw [drop_cons hr, List.any_cons] at i2
   by_cases ht : r.1 ≤ 57343 ∧ 55296 ≤ r.2 ∧ (55295 < r.1 ∨ r.2 < 57344)
   · rw [show txl r = true by simp [txl]; omega, Bool.true_or] at i2
     rw [← i2, Bool.not_true, Bool.false_and]
     repeat' (first | (apply z0e; (first | refine z13 rfl (by decide) ?_ | (apply z09; (first | refine z00 (z0k rfl rfl rfl rfl) rfl rfl (by decide) ?_ | refine z00 (z0w rfl rfl) rfl rfl (by decide) ?_)) | (apply z08; (refine z00 (z03 rfl rfl) rfl rfl (by decide) ?_)) | (apply z1c; (refine z00 (z0t (ys := rs.map rgc) rfl (by omega) (idx hr) rfl) rfl rfl (by decide) ?_)) | (apply z19; (refine z00 (z1e (z1s (by omega) (by omega))) rfl rfl (by decide) ?_)) | (apply z1k; (refine z00 (z1p rfl) rfl rfl (by decide) ?_)) | (apply z0i; (refine z0b rfl rfl rfl rfl rfl rfl ?_)) | (apply z0q; (refine z0j (z0p rfl rfl (by decide)) ?_)))) | (apply z0f; (first | refine z0z ?_ | apply z0c | refine z2e rfl rfl (by decide) ?_ | refine z5u rfl rfl (by decide) ?_ | refine z0u rfl rfl (fun _ => ?_) (fun _ => ?_))) | (apply z0d; (first | apply z0h | apply z01 | refine z0o rfl ?_ | refine z0g rfl ?_ | apply z06 | apply z02 | apply z04 | refine z1o rfl (fun _ => ?_) (fun _ => ?_) | refine z0r rfl ?_)))
     all_goals try (exfalso; omega)
     all_goals exact z07 Tryz.func26 _ (z0a rfl rfl) ⟨rfl, rfl⟩
   · rw [show txl r = false by
      rw [txl, ← Bool.decide_and, ← Bool.decide_or, ← Bool.decide_and, decide_eq_false_iff_not]; omega, Bool.false_or] at i2
     repeat' (first | (apply z0e; (first | refine z13 rfl (by decide) ?_ | (apply z09; (first | refine z00 (z0k rfl rfl rfl rfl) rfl rfl (by decide) ?_ | refine z00 (z0w rfl rfl) rfl rfl (by decide) ?_)) | (apply z08; (refine z00 (z03 rfl rfl) rfl rfl (by decide) ?_)) | (apply z1c; (refine z00 (z0t (ys := rs.map rgc) rfl (by omega) (idx hr) rfl) rfl rfl (by decide) ?_)) | (apply z19; (refine z00 (z1e (z1s (by omega) (by omega))) rfl rfl (by decide) ?_)) | (apply z1k; (refine z00 (z1p rfl) rfl rfl (by decide) ?_)) | (apply z0i; (refine z0b rfl rfl rfl rfl rfl rfl ?_)) | (apply z0q; (refine z0j (z0p rfl rfl (by decide)) ?_)))) | (apply z0f; (first | refine z0z ?_ | apply z0c | refine z2e rfl rfl (by decide) ?_ | refine z5u rfl rfl (by decide) ?_ | refine z0u rfl rfl (fun _ => ?_) (fun _ => ?_))) | (apply z0d; (first | apply z0h | apply z01 | refine z0o rfl ?_ | refine z0g rfl ?_ | apply z06 | apply z02 | apply z04 | refine z1o rfl (fun _ => ?_) (fun _ => ?_) | refine z0r rfl ?_)))
     all_goals try (exfalso; omega)
     all_goals exact z0y (ihl (i + 1) ⟨by omega, i2⟩ (by omega)) rfl rfl
 · obtain rfl : i = rs.length := by omega
   rw [List.drop_length] at i2
   rw [← i2, List.any_nil, Bool.not_false, Bool.true_and]
   clear ihl
   repeat' (first | (apply z0e; (first | refine z13 rfl (by decide) ?_ | (apply z09; (refine z00 (z0k rfl rfl rfl rfl) rfl rfl (by decide) ?_)) | (apply z08; (refine z00 (z03 rfl rfl) rfl rfl (by decide) ?_)) | (apply z1k; (refine z00 (z1p rfl) rfl rfl (by decide) ?_)))) | (apply z0f; (first | refine z0z ?_ | apply z0c)) | (apply z0d; (first | apply z0h | apply z01 | apply z06 | apply z02 | refine z1o rfl (fun _ => ?_) (fun _ => ?_) | refine z0r rfl ?_)))
   all_goals try (exfalso; omega)
   refine z2b ?_
   refine z0y (z3e (fun q : Nat => ⟨44, [(34, .d (.slice (ks.map rxc))), (35, I .i64 ks.length), (36, I .i64 (q : Nat))], [], H⟩) (fun q => q ≤ ks.length ∧ zd0 (ks.drop q) = zd0 ks) (fun q => ks.length - q) ?_ 0 ⟨Nat.zero_le _, rfl⟩) rfl rfl
   rintro i ⟨i1, i2⟩ ihl
   by_cases hlt : i < ks.length
   · obtain ⟨k, hk⟩ : ∃ k, ks[i]? = some k := ⟨_, List.getElem?_eq_getElem hlt⟩
     have hc := ih k (List.mem_of_getElem? hk) (z3o hf3 k (List.mem_of_getElem? hk))
     rw [drop_cons hk, zd0] at i2
     cases hw : wrt k with
     | true =>
      rw [hw] at hc i2
      rw [Bool.true_and] at i2
      obtain ⟨op', mn', mx', rs', ks'⟩ := k
      rw [z5f] at hc
      repeat' (first | (apply z0e; (first | refine z13 rfl (by decide) ?_ | (apply z09; (first | refine z00 (z0w rfl rfl) rfl rfl (by decide) ?_ | refine z00 (z1a rfl rfl rfl rfl) rfl rfl (by decide) ?_)) | (apply z1c; (refine z00 (z0t (ys := ks.map rxc) rfl (by omega) (z3l hk) rfl) rfl rfl (by decide) ?_)) | (apply z19; (refine z00 (z1e (z1s (by omega) (by omega))) rfl rfl (by decide) ?_)) | (apply z0l; (refine z1z hc rfl (by decide) ?_)) | (apply z0i; (refine z0b rfl rfl rfl rfl rfl rfl ?_)) | (apply z0q; (refine z0j (z0p rfl rfl (by decide)) ?_)))) | (apply z0f; (first | refine z0z ?_ | apply z0c)) | (apply z0d; (first | apply z0h | apply z01 | refine z0g rfl ?_ | apply z06 | apply z02 | apply z04 | refine z1o rfl (fun _ => ?_) (fun _ => ?_) | refine z0r rfl ?_)))
      all_goals try (exfalso; omega)
      all_goals exact z0y (ihl (i + 1) ⟨by omega, i2⟩ (by omega)) rfl rfl
     | false =>
      rw [hw] at hc i2
      rw [Bool.false_and] at i2
      rw [← i2]
      obtain ⟨op', mn', mx', rs', ks'⟩ := k
      rw [z5f] at hc
      repeat' (first | (apply z0e; (first | refine z13 rfl (by decide) ?_ | (apply z09; (first | refine z00 (z0w rfl rfl) rfl rfl (by decide) ?_ | refine z00 (z1a rfl rfl rfl rfl) rfl rfl (by decide) ?_)) | (apply z1c; (refine z00 (z0t (ys := ks.map rxc) rfl (by omega) (z3l hk) rfl) rfl rfl (by decide) ?_)) | (apply z0l; (refine z1z hc rfl (by decide) ?_)) | (apply z0i; (refine z0b rfl rfl rfl rfl rfl rfl ?_)) | (apply z0q; (refine z0j (z0p rfl rfl (by decide)) ?_)))) | (apply z0f; (first | refine z0z ?_ | apply z0c)) | (apply z0d; (first | apply z0h | apply z01 | refine z0o rfl ?_ | apply z06 | apply z02 | refine z1o rfl (fun _ => ?_) (fun _ => ?_) | refine z0r rfl ?_)))
      all_goals try (exfalso; omega)
      all_goals exact z07 Tryz.func26 _ (z0a rfl rfl) ⟨rfl, rfl⟩
   · obtain rfl : i = ks.length := by omega
     rw [List.drop_length, zd0] at i2
     rw [← i2]
     repeat' (first | (apply z0e; (refine z13 rfl (by decide) ?_)) | (apply z0f; (first | refine z0z ?_ | apply z0c)) | (apply z0d; (first | apply z0h | apply z01 | apply z06 | apply z02 | refine z1o rfl (fun _ => ?_) (fun _ => ?_) | refine z0r rfl ?_)))
     all_goals try (exfalso; omega)
     all_goals exact z07 Tryz.func26 _ (z0a rfl rfl) ⟨rfl, rfl⟩
end Go.Proofs.YtjmbjgecfpggdaaGreatDoor
