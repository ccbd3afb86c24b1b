/- A part of the proof: RX23. -/
import Derived.Test.YtjmbjgecfpggdaaDoorRx
set_option linter.all false
set_option linter.unusedVariables false
set_option linter.unusedSimpArgs false
namespace Go.Rx
open Go
set_option linter.unusedVariables false
set_option linter.unusedSimpArgs false
/-- the bytes of code points -/
def txN (l : List Int) : List Nat := l.flatMap fun c => ecL (fixI c)
def txE (l : List Int) : ByteArray := strN (txN l)
theorem ecL_lt (c : Int) : ∀ x ∈ ecL (fixI c), x < 256 := by
  rw [← btN_enc]; exact btN_lt _
theorem btN_txE (l : List Int) : btN (txE l) = txN l := btN_strN fun x hx => by
  rw [txN, List.mem_flatMap] at hx
  obtain ⟨c, _, hx⟩ := hx
  exact ecL_lt c x hx
theorem btN_app (s t : ByteArray) : btN (s ++ t) = btN s ++ btN t := by
  rw [btN, btN, btN, ByteArray.data_append, Array.toList_append, List.map_append]
theorem txE_app (a b : List Int) : txE (a ++ b) = txE a ++ txE b := btN_inj (by
  rw [btN_app, btN_txE, btN_txE, btN_txE, txN, List.flatMap_append]; rfl)
theorem txE_one (c : Int) : txE [c] = Utf8.encode c := btN_inj (by rw [btN_txE, btN_enc, txN]; simp)
theorem ecL_len (k : Nat) : 1 ≤ (ecL k).length ∧ (ecL k).length ≤ 4 := by
  unfold ecL; repeat' split
  all_goals simp
theorem txN_len : ∀ l : List Int, l.length ≤ (txN l).length ∧ (txN l).length ≤ 4 * l.length
  | [] => by simp [txN]
  | c :: l => by
    have ih := txN_len l
    have := ecL_len (fixI c)
    have e : txN (c :: l) = ecL (fixI c) ++ txN l := by rw [txN, List.flatMap_cons]; rfl
    rw [e, List.length_append, List.length_cons]; omega
theorem txE_size (l : List Int) : l.length ≤ (txE l).size ∧ (txE l).size ≤ 4 * l.length := by
  rw [← btN_len, btN_txE]; exact txN_len l
/-- how many bytes a code point has -/
def zE (c : Int) : Nat := (ecL (fixI c)).length
theorem unL_txN : ∀ (l : List Int) (f : Nat), (txN l).length ≤ f → (∀ c ∈ l, Utf8.valid c = true) → unL f (txN l) = mkU zE l
  | [], f, _, _ => by rw [show txN [] = [] from rfl, unL_nil]; rfl
  | c :: l, f, h, hv => by
    have hc := hv c (by simp)
    have hl := ecL_len (fixI c)
    have e : txN (c :: l) = ecL (fixI c) ++ txN l := by rw [txN, List.flatMap_cons]; rfl
    rw [e, List.length_append] at h
    obtain ⟨f, rfl⟩ : ∃ g, f = g + 1 := ⟨f - 1, by omega⟩
    have ih := unL_txN l f (by omega) (fun x hx => hv x (by simp [hx]))
    have hd := dcL_ec (fixI_valid c) (txN l)
    rw [e]
    cases hz : ecL (fixI c) with
    | nil => exact absurd hz (ecL_ne _)
    | cons b r =>
      rw [hz] at hd
      have e2 : (b :: r) ++ txN l = b :: (r ++ txN l) := rfl
      rw [e2] at hd ⊢
      rw [unL, hd]
      simp only
      rw [← e2, List.drop_left, ih, mkU_cons, zE, hz, fixI_of hc]
theorem rst_txE {l : List Int} (hv : ∀ c ∈ l, Utf8.valid c = true) : rst (txE l) 0 = mkU zE l := by
  rw [rst_unL _ (txE l).size 0 (by omega), List.drop_zero, btN_txE]
  exact unL_txN l _ (by rw [← btN_len, btN_txE]; exact Nat.le_refl _) hv
theorem vld_txE {l : List Int} (hv : ∀ c ∈ l, Utf8.valid c = true) : vldS (txE l) = true := by
  rw [vldS, rst_txE hv, mkU, List.all_map, List.all_eq_true]
  intro c _
  simp only [Function.comp, okUn]
  by_cases h : c = 65533
  · subst h; decide
  · simp [h]
/-! how long -/
theorem setOK_len : ∀ (l : List (Int × Int)) (a : Int), a ≤ 1114113 → setOK a l = true → 2 * (l.length : Int) ≤ 1114113 - a
  | [], a, ha, _ => by simp; omega
  | r :: l, a, ha, h => by
    rw [setOK, Bool.and_eq_true, Bool.and_eq_true, Bool.and_eq_true, decide_eq_true_eq, decide_eq_true_eq, decide_eq_true_eq] at h
    obtain ⟨⟨⟨h1, h2⟩, h3⟩, h4⟩ := h
    have ih := setOK_len l (r.2 + 2) (by omega) h4
    rw [List.length_cons]; omega
theorem okRs_len {l : List (Int × Int)} (h : okRs l = true) : l.length ≤ 557056 := by
  rw [okRs, Bool.and_eq_true] at h
  have := setOK_len l 0 (by decide) h.1
  omega
theorem quo_len (sp : List Int) (c : Int) : (quo sp c).length ≤ 2 := by unfold quo; split <;> simp
theorem fRng_le (r : Rg) : (fRng r).length ≤ 5 := by
  have h1 := quo_len spC r.1
  have h2 := quo_len spC r.2
  rw [fRng, List.length_append, List.length_append]
  split <;> split <;> simp <;> omega
theorem flat_le : ∀ l : List Rg, (l.flatMap fRng).length ≤ 5 * l.length
  | [] => by simp
  | r :: l => by
    have := flat_le l
    have := fRng_le r
    rw [List.flatMap_cons, List.length_append, List.length_cons]; omega
theorem fset_le (l : List Rg) : (fset l).length ≤ 2 + 5 * l.length := by
  cases l with
  | nil => simp [fset]
  | cons r l =>
    have h1 := flat_le (r :: l)
    have h2 := quo_len spA r.1
    rw [fset]
    split
    · simp only [List.length_cons, List.length_nil]; omega
    · split
      · simp only [List.length_cons]; omega
      · rw [List.length_append, List.length_append]; simp only [List.length_cons, List.length_nil] at *; omega
theorem dgs_le (n : Int) : (dgs n).length ≤ 2 := by unfold dgs; split <;> simp
theorem fcnt_le (lo hi : Int) : (fcnt lo hi).length ≤ 7 := by
  have h1 := dgs_le lo
  have h2 := dgs_le hi
  unfold fcnt
  repeat' split
  all_goals simp
  all_goals omega
theorem brk_le (b : Bool) (l : List Int) : (brk b l).length ≤ l.length + 2 := by
  unfold brk; split <;> simp
theorem fm_len : (∀ e : Rx, vns e = true → ∀ w, (fm e w).length + 20 ≤ 3000000 * sz e) ∧
    ∀ l : List Rx, vnsL l = true → (fmC l).length ≤ 3000000 * szL l ∧ (fmU l).length ≤ 3000000 * szL l ∧ (fmV l).length ≤ 3000000 * szL l ∧ (fm1 l).length ≤ 3000000 * szL l := by
  refine Rx.ind (fun op mn mx rs ks ih hv w => ?_) (fun _ => by simp [fmC, fmU, fmV, fm1]) (fun k ks hk ih hv => ?_)
  · rw [vns, Bool.and_eq_true] at hv
    obtain ⟨i1, i2, i3, i4⟩ := ih hv.2
    have h := hv.1
    rw [sz, fm]
    split
    · rename_i h1
      rw [vn, if_pos h1, Bool.and_eq_true] at h
      have := okRs_len h.2
      have := fset_le rs
      omega
    · split
      · have := brk_le (decide (w = 4)) (fmC ks); omega
      · split
        · have := brk_le (decide (w = 4) || decide (w = 2)) (fmU ks); omega
        · have := brk_le (decide (w = 4)) (fm1 ks ++ fcnt mn mx)
          have := fcnt_le mn mx
          rw [List.length_append] at *; omega
  · rw [vnsL, Bool.and_eq_true] at hv
    obtain ⟨i1, i2, i3, i4⟩ := ih hv.2
    have h2 := hk hv.1 2
    have h3 := hk hv.1 3
    have h4 := hk hv.1 4
    rw [fmC, fmU, fmV, fm1, szL]
    simp only [List.length_append, List.length_cons, List.length_nil]
    omega
/-! every code point of a text can be written -/
theorem quo_v {sp : List Int} {c : Int} (h : Utf8.valid c = true) : ∀ x ∈ quo sp c, Utf8.valid x = true := by
  unfold quo
  split
  · intro x hx
    simp only [List.mem_cons, List.not_mem_nil, or_false] at hx
    rcases hx with rfl | rfl
    · decide
    · exact h
  · intro x hx
    simp only [List.mem_cons, List.not_mem_nil, or_false] at hx
    subst hx; exact h
theorem setOK_mem : ∀ {l : List (Int × Int)} {a : Int}, 0 ≤ a → setOK a l = true → ∀ r ∈ l, 0 ≤ r.1 ∧ r.1 ≤ r.2 ∧ r.2 ≤ 1114111
  | [], a, _, _, r, hr => by simp at hr
  | x :: l, a, ha, h, r, hr => by
    rw [setOK, Bool.and_eq_true, Bool.and_eq_true, Bool.and_eq_true, decide_eq_true_eq, decide_eq_true_eq, decide_eq_true_eq] at h
    obtain ⟨⟨⟨h1, h2⟩, h3⟩, h4⟩ := h
    rw [List.mem_cons] at hr
    rcases hr with rfl | hr
    · omega
    · exact setOK_mem (by omega) h4 r hr
theorem okRs_mem {l : List (Int × Int)} (h : okRs l = true) : ∀ r ∈ l, 0 ≤ r.1 ∧ r.1 ≤ r.2 ∧ r.2 ≤ 1114111 := by
  rw [okRs, Bool.and_eq_true] at h
  exact setOK_mem (Int.le_refl _) h.1
theorem txl_v {r : Rg} (h : 0 ≤ r.1 ∧ r.1 ≤ r.2 ∧ r.2 ≤ 1114111) (ht : txl r = false) : Utf8.valid r.1 = true ∧ Utf8.valid r.2 = true := by
  rw [txl, Bool.and_eq_false_iff, Bool.and_eq_false_iff, Bool.or_eq_false_iff, decide_eq_false_iff_not, decide_eq_false_iff_not, decide_eq_false_iff_not, decide_eq_false_iff_not] at ht
  rw [valid_iff, valid_iff]; omega
theorem fRng_v {r : Rg} (h : 0 ≤ r.1 ∧ r.1 ≤ r.2 ∧ r.2 ≤ 1114111) (ht : txl r = false) : ∀ x ∈ fRng r, Utf8.valid x = true := by
  obtain ⟨v1, v2⟩ := txl_v h ht
  intro x hx
  rw [fRng, List.mem_append, List.mem_append] at hx
  rcases hx with (hx | hx) | hx
  · exact quo_v v1 x hx
  · split at hx
    · simp only [List.mem_cons, List.not_mem_nil, or_false] at hx; subst hx; decide
    · simp at hx
  · split at hx
    · exact quo_v v2 x hx
    · simp at hx
theorem fset_v {l : List Rg} (h : okRs l = true) (ht : l.any txl = false) : ∀ x ∈ fset l, Utf8.valid x = true := by
  have hm := okRs_mem h
  rw [List.any_eq_false] at ht
  cases l with
  | nil => intro x hx; simp [fset] at hx
  | cons r l =>
    intro x hx
    rw [fset] at hx
    split at hx
    · simp only [List.mem_cons, List.not_mem_nil, or_false] at hx; subst hx; decide
    · split at hx
      · exact quo_v (txl_v (hm r (by simp)) (by simpa using ht r (by simp))).1 x hx
      · rw [List.mem_append, List.mem_append] at hx
        rcases hx with (hx | hx) | hx
        · simp only [List.mem_cons, List.not_mem_nil, or_false] at hx; subst hx; decide
        · rw [List.mem_flatMap] at hx
          obtain ⟨q, hq, hx⟩ := hx
          exact fRng_v (hm q hq) (by simpa using ht q hq) x hx
        · simp only [List.mem_cons, List.not_mem_nil, or_false] at hx; subst hx; decide
theorem dgs_v {n : Int} (h0 : 0 ≤ n) (h1 : n ≤ 16) : ∀ x ∈ dgs n, Utf8.valid x = true := by
  intro x hx
  unfold dgs at hx
  split at hx
  · simp only [List.mem_cons, List.not_mem_nil, or_false] at hx; subst hx; rw [valid_iff]; omega
  · simp only [List.mem_cons, List.not_mem_nil, or_false] at hx
    rw [valid_iff]; omega
theorem fcnt_v {lo hi : Int} (h0 : 0 ≤ lo) (h1 : lo ≤ 16) (h2 : hi = -1 ∨ lo ≤ hi ∧ hi ≤ 16) : ∀ x ∈ fcnt lo hi, Utf8.valid x = true := by
  have d1 := dgs_v h0 h1
  intro x hx
  unfold fcnt at hx
  have c : ∀ y : Int, (y = 42 ∨ y = 43 ∨ y = 63 ∨ y = 44 ∨ y = 123 ∨ y = 125) → Utf8.valid y = true := fun y h => by rw [valid_iff]; omega
  split at hx
  · simp only [List.mem_cons, List.not_mem_nil, or_false] at hx; exact c x (by omega)
  split at hx
  · simp only [List.mem_cons, List.not_mem_nil, or_false] at hx; exact c x (by omega)
  split at hx
  · simp only [List.mem_cons, List.not_mem_nil, or_false] at hx; exact c x (by omega)
  split at hx
  · simp only [List.mem_append, List.mem_cons, List.not_mem_nil, or_false] at hx
    rcases hx with (hx | hx) | hx
    · exact c x (by omega)
    · exact d1 x hx
    · exact c x (by omega)
  split at hx
  · simp only [List.mem_append, List.mem_cons, List.not_mem_nil, or_false] at hx
    rcases hx with (hx | hx) | hx
    · exact c x (by omega)
    · exact d1 x hx
    · exact c x (by omega)
  · have d2 := dgs_v (n := hi) (by omega) (by omega)
    simp only [List.mem_append, List.mem_cons, List.not_mem_nil, or_false] at hx
    rcases hx with (((hx | hx) | hx) | hx) | hx
    · exact c x (by omega)
    · exact d1 x hx
    · exact c x (by omega)
    · exact d2 x hx
    · exact c x (by omega)
theorem brk_v {b : Bool} {l : List Int} (h : ∀ x ∈ l, Utf8.valid x = true) : ∀ x ∈ brk b l, Utf8.valid x = true := by
  intro x hx
  unfold brk at hx
  split at hx
  · simp only [List.mem_append, List.mem_cons, List.not_mem_nil, or_false] at hx
    rcases hx with (hx | hx) | hx
    · subst hx; decide
    · exact h x hx
    · subst hx; decide
  · exact h x hx
theorem app_v {a b : List Int} (h : ∀ x ∈ a, Utf8.valid x = true) (k : ∀ x ∈ b, Utf8.valid x = true) : ∀ x ∈ a ++ b, Utf8.valid x = true := fun x hx => (List.mem_append.1 hx).elim (h x) (k x)
theorem fm_v : (∀ e : Rx, vns e = true → wrt e = true → ∀ w, ∀ x ∈ fm e w, Utf8.valid x = true) ∧
    ∀ l : List Rx, vnsL l = true → wrtL l = true → (∀ x ∈ fmC l, Utf8.valid x = true) ∧ (∀ x ∈ fmU l, Utf8.valid x = true) ∧ (∀ x ∈ fmV l, Utf8.valid x = true) ∧ (∀ x ∈ fm1 l, Utf8.valid x = true) := by
  refine Rx.ind (fun op mn mx rs ks ih hv hw w => ?_) (fun _ _ => by simp [fmC, fmU, fmV, fm1]) (fun k ks hk ih hv hw => ?_)
  · rw [vns, Bool.and_eq_true] at hv
    rw [wrt, Bool.and_eq_true, Bool.not_eq_true'] at hw
    obtain ⟨i1, i2, i3, i4⟩ := ih hv.2 hw.2
    have h := hv.1
    rw [fm]
    split
    · rename_i h1
      rw [vn, if_pos h1, Bool.and_eq_true] at h
      exact fset_v h.2 hw.1
    · rename_i n1
      split
      · exact brk_v i1
      · rename_i n2
        split
        · exact brk_v i2
        · rename_i n3
          rw [vn, if_neg n1, if_neg n2, if_neg n3] at h
          split at h
          · simp only [Bool.and_eq_true, Bool.or_eq_true, decide_eq_true_eq] at h
            exact brk_v (app_v i4 (fcnt_v h.1.1.2 h.1.2 h.2))
          · cases h
  · rw [vnsL, Bool.and_eq_true] at hv
    rw [wrtL, Bool.and_eq_true] at hw
    obtain ⟨i1, i2, i3, i4⟩ := ih hv.2 hw.2
    rw [fmC, fmU, fmV, fm1]
    refine ⟨app_v (hk hv.1 hw.1 2) i1, app_v (hk hv.1 hw.1 3) i3, app_v ?_ (app_v (hk hv.1 hw.1 3) i3), hk hv.1 hw.1 4⟩
    intro x hx
    simp only [List.mem_cons, List.not_mem_nil, or_false] at hx; subst hx; decide
end Go.Rx
