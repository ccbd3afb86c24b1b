/- The code that is found is complete. -/
import Derived.Test.YtlgdilkmcfpjjaaWj
import Derived.Test.YtlgdilkmcfpjjaaWl
set_option linter.all false
set_option linter.unusedVariables false
set_option linter.unusedSimpArgs false
namespace Go.Proofs.Ytlgdilkmcfpjjaa
open Go.Ab Go.Srt
set_option linter.unusedVariables false
set_option linter.unusedSimpArgs false
def notP (x : Z) : Bool := !isP x
theorem leaf_notP {N : Nat} {x : Z} (h : LeafZ N x) : isP x = false := by have := h.1; simp only [isP, decide_eq_false_iff_not]; omega
theorem lev_notP (N : Nat) (L : List Z) (hL : ∀ x ∈ L, LeafZ N x) : ∀ j, (zlvl L j).filter notP = L
  | 0 => by rw [zlvl, List.filter_eq_self]; intro x hx; simp [notP, leaf_notP (hL x hx)]
  | j + 1 => by
    rw [zlvl]
    refine filter_not_mrg notP _ _ (fun x hx => by simp [notP, leaf_notP (hL x hx)]) fun x hx => ?_
    obtain ⟨_, _, _, _, _, hs⟩ := zpk_mem _ _ 0 x (Nat.le_refl _) hx
    simp [notP, isP, hs]
/-- the leaves among the first items of a level -/
def lf (L : List Z) (j t : Nat) : Nat := (((zlvl L j).take t).filter notP).length
theorem take_notP (N : Nat) (L : List Z) (hL : ∀ x ∈ L, LeafZ N x) (j t : Nat) : ((zlvl L j).take t).filter notP = L.take (lf L j t) := by
  conv => lhs; rw [filter_take, lev_notP N L hL]
  rfl
theorem lf_le (N : Nat) (L : List Z) (hL : ∀ x ∈ L, LeafZ N x) (j t : Nat) : lf L j t ≤ L.length := by
  have := congrArg List.length (take_notP N L hL j t)
  rw [List.length_take] at this
  have e : lf L j t = (((zlvl L j).take t).filter notP).length := rfl
  omega
theorem two_filters : ∀ T : List Z, (T.filter notP).length + (T.filter isP).length = T.length
  | [] => rfl
  | x :: T => by
    have := two_filters T
    rw [List.filter_cons, List.filter_cons]
    cases h : isP x
    · rw [if_pos (show notP x = true by simp [notP, h]), if_neg (by simp), List.length_cons, List.length_cons]
      omega
    · rw [if_neg (show ¬ notP x = true by simp [notP, h]), if_pos rfl, List.length_cons, List.length_cons]
      omega
theorem lf_pk (L : List Z) (j t : Nat) (ht : t ≤ (zlvl L j).length) : lf L j t + (((zlvl L j).take t).filter isP).length = t := by
  have := two_filters ((zlvl L j).take t)
  rw [List.length_take, Nat.min_eq_left ht] at this
  exact this
theorem lf_zero (N : Nat) (L : List Z) (hL : ∀ x ∈ L, LeafZ N x) (t : Nat) (ht : t ≤ L.length) : lf L 0 t = t := by
  have := lf_pk L 0 t ht
  have h0 : ((zlvl L 0).take t).filter isP = [] := by
    rw [List.filter_eq_nil_iff]; intro x hx
    rw [leaf_notP (hL x (List.mem_of_mem_take hx))]; simp
  rw [h0] at this; simpa using this
/-- the packages among the first items of a level -/
theorem pk_take (N : Nat) (L : List Z) (hL : ∀ x ∈ L, LeafZ N x) (j t : Nat) (ht : t ≤ (zlvl L (j + 1)).length) :
    ((zlvl L (j + 1)).take t).filter isP = (zpk (zlvl L j) 0).take (t - lf L (j + 1) t) ∧ 2 * (t - lf L (j + 1) t) ≤ (zlvl L j).length := by
  have h1 := lf_pk L (j + 1) t ht
  have h2 : (((zlvl L (j + 1)).take t).filter isP).length = t - lf L (j + 1) t := by omega
  have h3 : ((zlvl L (j + 1)).take t).filter isP = (zpk (zlvl L j) 0).take (t - lf L (j + 1) t) := by
    rw [← h2]
    conv => lhs; rw [filter_take, filter_isP N L hL]
  refine ⟨h3, ?_⟩
  have := congrArg List.length h3
  rw [List.length_take, zpk_len _ _ 0 (Nat.le_refl _), h2] at this
  omega
theorem zlvl_pos (L : List Z) (hL : ∀ x ∈ L, 0 < x.1.1.weight) : ∀ k, ∀ x ∈ zlvl L k, 0 < x.1.1.weight
  | 0, x, hx => hL x hx
  | k + 1, x, hx => by
    rw [zlvl] at hx
    have hx := (mrg_perm (le := zle) _ _).mem_iff.1 hx
    rw [List.mem_append] at hx
    rcases hx with hx | hx
    · exact hL x hx
    · obtain ⟨u, hu, v, hv, he, _⟩ := zpk_mem _ _ 0 x (Nat.le_refl _) hx
      have := zlvl_pos L hL k u hu
      have := zlvl_pos L hL k v hv
      omega
theorem pk_of : ∀ (n : Nat) (l : List Z) (i p : Nat) (y : Z), l.length ≤ n → 2 * p ≤ l.length → y ∈ l.take (2 * p) → ∃ P ∈ (zpk l i).take p, ∃ u ∈ l, P.1.1.weight = y.1.1.weight + u.1.1.weight
  | _, l, i, 0, y, _, _, h => by simp at h
  | _, [], i, p + 1, y, _, h, _ => by simp at h
  | _, [x], i, p + 1, y, _, h, _ => by simp at h; omega
  | 0, a :: b :: r, i, p + 1, y, h, _, _ => by simp at h
  | n + 1, a :: b :: r, i, p + 1, y, h, hp, hy => by
    simp only [List.length_cons] at h hp
    rw [show 2 * (p + 1) = 2 * p + 1 + 1 by omega, List.take_succ_cons, List.take_succ_cons, List.mem_cons, List.mem_cons] at hy
    rw [zpk, List.take_succ_cons]
    rcases hy with rfl | rfl | hy
    · exact ⟨_, List.mem_cons_self, b, by simp, rfl⟩
    · exact ⟨_, List.mem_cons_self, a, by simp, Int.add_comm _ _⟩
    · obtain ⟨P, hP, u, hu, e⟩ := pk_of n r (i + 2) p y (by omega) (by omega) hy
      exact ⟨P, List.mem_cons_of_mem _ hP, u, by simp [hu], e⟩
/-- not more leaves are taken at the level below -/
theorem lf_mono (N : Nat) (L : List Z) (hL : ∀ x ∈ L, LeafZ N x) (ha : Asc zle L) (hw : ∀ x ∈ L, 0 < x.1.1.weight) (j t : Nat) (ht : t ≤ (zlvl L (j + 1)).length) : lf L j (2 * (t - lf L (j + 1) t)) ≤ lf L (j + 1) t := by
  refine Nat.le_of_not_lt fun hlt => ?_
  obtain ⟨hp1, hp2⟩ := pk_take N L hL j t ht
  obtain ⟨s, hs⟩ : ∃ s, lf L (j + 1) t = s := ⟨_, rfl⟩
  rw [hs] at hlt hp1 hp2
  have hle := lf_le N L hL j (2 * (t - s))
  have hsL : s < L.length := by omega
  have hy1 : L[s] ∈ (zlvl L j).take (2 * (t - s)) := by
    have : L[s] ∈ ((zlvl L j).take (2 * (t - s))).filter notP := by
      rw [take_notP N L hL]
      exact List.mem_of_getElem? (show (L.take (lf L j (2 * (t - s))))[s]? = some L[s] by rw [List.getElem?_take, if_pos hlt, List.getElem?_eq_getElem hsL])
    exact (List.mem_filter.1 this).1
  obtain ⟨P, hP, u, hu, he⟩ := pk_of _ (zlvl L j) 0 (t - s) L[s] (Nat.le_refl _) hp2 hy1
  rw [← hp1] at hP
  have hP := (List.mem_filter.1 hP).1
  have hy2 : L[s] ∈ (zlvl L (j + 1)).drop t := by
    have h1 := lev_notP N L hL (j + 1)
    rw [← List.take_append_drop t (zlvl L (j + 1)), List.filter_append, take_notP N L hL, hs] at h1
    have h2 := List.append_cancel_left (h1.trans (List.take_append_drop s L).symm)
    have : L[s] ∈ ((zlvl L (j + 1)).drop t).filter notP := by rw [h2, List.drop_eq_getElem_cons hsL]; exact List.mem_cons_self
    exact (List.mem_filter.1 this).1
  have hasc := zlvl_asc L ha (j + 1)
  rw [← List.take_append_drop t (zlvl L (j + 1))] at hasc
  have := (List.pairwise_append.1 hasc).2.2 P hP _ hy2
  simp only [zle, decide_eq_true_eq] at this
  have := zlvl_pos L hw j u hu
  omega
/-- the levels that take the leaf of a rank, and their value -/
def rl (L : List Z) : Nat → Nat → Nat → Nat
  | 0, t, r => if r < lf L 0 t then 1 else 0
  | j + 1, t, r => (if r < lf L (j + 1) t then 1 else 0) + rl L j (2 * (t - lf L (j + 1) t)) r
def vl (L : List Z) : Nat → Nat → Nat → Nat
  | 0, t, r => if r < lf L 0 t then 1 else 0
  | j + 1, t, r => (if r < lf L (j + 1) t then 2 ^ (j + 1) else 0) + vl L j (2 * (t - lf L (j + 1) t)) r
theorem rl_le (L : List Z) : ∀ j t r, rl L j t r ≤ j + 1
  | 0, t, r => by rw [rl]; split <;> omega
  | j + 1, t, r => by
    have := rl_le L j (2 * (t - lf L (j + 1) t)) r
    rw [rl]; split <;> omega
theorem rl_mono (L : List Z) : ∀ j t r r', r ≤ r' → rl L j t r' ≤ rl L j t r
  | 0, t, r, r', h => by rw [rl, rl]; split <;> split <;> omega
  | j + 1, t, r, r', h => by
    have := rl_mono L j (2 * (t - lf L (j + 1) t)) r r' h
    rw [rl, rl]; split <;> split <;> omega
theorem rl_ge (N : Nat) (L : List Z) (hL : ∀ x ∈ L, LeafZ N x) (h2 : 2 ≤ L.length) : ∀ j t r, r < L.length → 2 * L.length - 2 ≤ t → t ≤ (zlvl L j).length → 1 ≤ rl L j t r
  | 0, t, r, hr, ht, hle => by
    rw [rl, lf_zero N L hL t hle, if_pos (by omega)]; omega
  | j + 1, t, r, hr, ht, hle => by
    rw [rl]
    by_cases h : r < lf L (j + 1) t
    · rw [if_pos h]; omega
    · have := rl_ge N L hL h2 j (2 * (t - lf L (j + 1) t)) r hr (by omega) (pk_take N L hL j t hle).2
      omega
theorem rl_zero (N : Nat) (L : List Z) (hL : ∀ x ∈ L, LeafZ N x) (ha : Asc zle L) (hw : ∀ x ∈ L, 0 < x.1.1.weight) : ∀ j t r, t ≤ (zlvl L j).length → lf L j t ≤ r → rl L j t r = 0 ∧ vl L j t r = 0
  | 0, t, r, ht, h => by rw [rl, vl, if_neg (by omega)]; simp
  | j + 1, t, r, ht, h => by
    have hm := lf_mono N L hL ha hw j t ht
    have := rl_zero N L hL ha hw j (2 * (t - lf L (j + 1) t)) r (pk_take N L hL j t ht).2 (by omega)
    rw [rl, vl, if_neg (by omega), if_neg (by omega), this.1, this.2]; simp
theorem kraft_one (N : Nat) (L : List Z) (hL : ∀ x ∈ L, LeafZ N x) (ha : Asc zle L) (hw : ∀ x ∈ L, 0 < x.1.1.weight) : ∀ j t r, t ≤ (zlvl L j).length → vl L j t r + 2 ^ (j + 1 - rl L j t r) = 2 ^ (j + 1)
  | 0, t, r, ht => by rw [rl, vl]; split <;> rfl
  | j + 1, t, r, ht => by
    by_cases h : r < lf L (j + 1) t
    · have ih := kraft_one N L hL ha hw j (2 * (t - lf L (j + 1) t)) r (pk_take N L hL j t ht).2
      have hle := rl_le L j (2 * (t - lf L (j + 1) t)) r
      rw [rl, vl, if_pos h, if_pos h, show j + 1 + 1 - (1 + rl L j (2 * (t - lf L (j + 1) t)) r) = j + 1 - rl L j (2 * (t - lf L (j + 1) t)) r by omega, Nat.pow_succ 2 (j + 1)]
      omega
    · have := rl_zero N L hL ha hw (j + 1) t r ht (by omega)
      rw [this.1, this.2]; simp
theorem sumN_const (c : Nat) : ∀ m, sumN m (fun _ => c) = m * c
  | 0 => by simp [sumN]
  | m + 1 => by rw [sumN, sumN_const c m, Nat.add_mul]; omega
theorem sumN_lt (s c : Nat) : ∀ m, sumN m (fun r => if r < s then c else 0) = (min s m) * c
  | 0 => by simp [sumN]
  | m + 1 => by
    rw [sumN, sumN_lt s c m]
    by_cases h : m < s
    · rw [if_pos h, show min s (m + 1) = min s m + 1 by omega, Nat.add_mul]; omega
    · rw [if_neg h, show min s (m + 1) = min s m by omega]; omega
theorem vl_sum (N : Nat) (L : List Z) (hL : ∀ x ∈ L, LeafZ N x) : ∀ j t, t ≤ (zlvl L j).length → sumN L.length (vl L j t) = t * 2 ^ j
  | 0, t, ht => by
    have h := lf_zero N L hL t ht
    have e : vl L 0 t = fun r => if r < t then 1 else 0 := by funext r; rw [vl, h]
    have ht' : t ≤ L.length := ht
    rw [e, sumN_lt, Nat.min_eq_left ht']
  | j + 1, t, ht => by
    have h1 := lf_pk L (j + 1) t ht
    have h2 := lf_le N L hL (j + 1) t
    have ih := vl_sum N L hL j (2 * (t - lf L (j + 1) t)) (pk_take N L hL j t ht).2
    have e : vl L (j + 1) t = fun r => (if r < lf L (j + 1) t then 2 ^ (j + 1) else 0) + vl L j (2 * (t - lf L (j + 1) t)) r := by funext r; rw [vl]
    rw [e, sumN_add, sumN_lt, Nat.min_eq_left h2]
    have ih' : sumN L.length (fun r => vl L j (2 * (t - lf L (j + 1) t)) r) = 2 * (t - lf L (j + 1) t) * 2 ^ j := ih
    rw [ih', Nat.mul_comm 2 (t - _), Nat.mul_assoc, ← Nat.pow_succ', ← Nat.add_mul, show lf L (j + 1) t + (t - lf L (j + 1) t) = t by omega]
/-- THE CODE IS COMPLETE -/
theorem kraft_all (N : Nat) (L : List Z) (hL : ∀ x ∈ L, LeafZ N x) (ha : Asc zle L) (hw : ∀ x ∈ L, 0 < x.1.1.weight) (h2 : 2 ≤ L.length) (j : Nat) (ht : 2 * L.length - 2 ≤ (zlvl L j).length) : sumN L.length (fun r => 2 ^ (j + 1 - rl L j (2 * L.length - 2) r)) = 2 ^ (j + 1) := by
  have h1 := vl_sum N L hL j _ ht
  have h3 : sumN L.length (fun r => vl L j (2 * L.length - 2) r + 2 ^ (j + 1 - rl L j (2 * L.length - 2) r)) = L.length * 2 ^ (j + 1) := by
    rw [show (fun r => vl L j (2 * L.length - 2) r + 2 ^ (j + 1 - rl L j (2 * L.length - 2) r)) = fun _ => 2 ^ (j + 1) from funext fun r => kraft_one N L hL ha hw j _ r ht, sumN_const]
  rw [sumN_add] at h3
  have h1' : sumN L.length (fun r => vl L j (2 * L.length - 2) r) = (2 * L.length - 2) * 2 ^ j := h1
  have e : (2 * L.length - 2) * 2 ^ j = (L.length - 1) * 2 ^ (j + 1) := by rw [show 2 * L.length - 2 = (L.length - 1) * 2 by omega, Nat.mul_assoc, ← Nat.pow_succ']
  have e2 : L.length * 2 ^ (j + 1) = (L.length - 1) * 2 ^ (j + 1) + 2 ^ (j + 1) := by
    conv => lhs; rw [show L.length = (L.length - 1) + 1 by omega, Nat.add_mul, Nat.one_mul]
  omega
end Go.Proofs.Ytlgdilkmcfpjjaa
namespace Go.Proofs.Ytlgdilkmcfpjjaa
open Go.Ab Go.Srt
set_option linter.unusedVariables false
set_option linter.unusedSimpArgs false
theorem cnt_none (s : Nat) : ∀ T : List Z, (∀ x ∈ T, x.1.1.symbol ≠ (s : Int)) → cnt T s = 0
  | [], _ => rfl
  | x :: T, h => by rw [cnt_cons, if_neg (h x (by simp)), cnt_none s T fun y hy => h y (by simp [hy])]; rfl
theorem cnt_take (s : Nat) : ∀ (L : List Z) (r m : Nat), L.Pairwise (fun a b => a.1.1.symbol ≠ b.1.1.symbol) → (∃ x, L[r]? = some x ∧ x.1.1.symbol = (s : Int)) → cnt (L.take m) s = if r < m then 1 else 0
  | [], r, m, _, h => by obtain ⟨x, h, _⟩ := h; simp at h
  | a :: L, r, 0, _, _ => by rw [List.take_zero, if_neg (by omega)]; rfl
  | a :: L, 0, m + 1, hnd, h => by
    obtain ⟨x, h, hs⟩ := h
    simp at h; subst h
    rw [List.take_succ_cons, cnt_cons, if_pos hs, if_pos (by omega), cnt_none s _ fun y hy => ?_]
    · rfl
    · have := (List.pairwise_cons.1 hnd).1 y (List.mem_of_mem_take hy)
      omega
  | a :: L, r + 1, m + 1, hnd, h => by
    obtain ⟨x, h, hs⟩ := h
    simp only [List.getElem?_cons_succ] at h
    have h1 := (List.pairwise_cons.1 hnd).1 x (List.mem_of_getElem? h)
    rw [List.take_succ_cons, cnt_cons, if_neg (by omega), cnt_take s L r m (List.pairwise_cons.1 hnd).2 ⟨x, h, hs⟩]
    by_cases hr : r < m
    · rw [if_pos hr, if_pos (by omega)]; rfl
    · rw [if_neg hr, if_neg (by omega)]; rfl
theorem zlv_sym (N : Nat) : ∀ (l : List Int) (i : Nat), (zlv N l i).Pairwise (fun a b => a.1.1.symbol ≠ b.1.1.symbol) ∧ ∀ x ∈ zlv N l i, (i : Int) ≤ x.1.1.symbol
  | [], i => by simp [zlv]
  | c :: r, i => by
    obtain ⟨h1, h2⟩ := zlv_sym N r (i + 1)
    rw [zlv]
    by_cases hc : 0 < c
    · rw [if_pos hc]
      refine ⟨List.pairwise_cons.2 ⟨fun y hy => ?_, h1⟩, fun x hx => ?_⟩
      · have := h2 y hy; simp only; omega
      · rw [List.mem_cons] at hx
        rcases hx with rfl | hx
        · exact Int.le_refl _
        · have := h2 x hx; omega
    · rw [if_neg hc]
      exact ⟨h1, fun x hx => by have := h2 x hx; omega⟩
theorem zleaves_sym (counts : List Int) : (zleaves counts).Pairwise (fun a b => a.1.1.symbol ≠ b.1.1.symbol) := by
  rw [zleaves]
  exact ((isort_perm (le := zle) _).pairwise_iff (fun h => h.symm)).2 (zlv_sym _ counts 0).1
theorem zlv_has (N : Nat) : ∀ (l : List Int) (i j : Nat) (c : Int), l[j]? = some c → 0 < c → ∃ x ∈ zlv N l i, x.1.1.symbol = ((i + j : Nat) : Int) ∧ x.1.1.weight = c
  | [], i, j, c, h, _ => by simp at h
  | d :: r, i, 0, c, h, hc => by
    simp at h; subst h
    rw [zlv, if_pos hc]
    exact ⟨_, List.mem_cons_self, rfl, rfl⟩
  | d :: r, i, j + 1, c, h, hc => by
    simp only [List.getElem?_cons_succ] at h
    obtain ⟨x, hx, h1, h2⟩ := zlv_has N r (i + 1) j c h hc
    refine ⟨x, ?_, by rw [h1]; congr 1; omega, h2⟩
    rw [zlv]; split
    · exact List.mem_cons_of_mem _ hx
    · exact hx
theorem rank_of (counts : List Int) {i : Nat} {c : Int} (h : counts[i]? = some c) (hc : 0 < c) : ∃ (r : Nat) (x : Z), (zleaves counts)[r]? = some x ∧ x.1.1.symbol = (i : Int) ∧ x.1.1.weight = c := by
  obtain ⟨x, hx, h1, h2⟩ := zlv_has counts.length counts 0 i c h hc
  have : x ∈ zleaves counts := by rw [zleaves]; exact (isort_perm (le := zle) _).mem_iff.2 hx
  obtain ⟨r, hr, he⟩ := List.getElem_of_mem this
  exact ⟨r, x, by rw [List.getElem?_eq_getElem hr, he], by rw [h1, Nat.zero_add], h2⟩
theorem cnt_notP (s : Nat) : ∀ T : List Z, cnt T s = cnt (T.filter notP) s
  | [] => rfl
  | x :: T => by
    rw [cnt_cons, List.filter_cons]
    by_cases h : notP x = true
    · rw [if_pos h, cnt_cons, cnt_notP s T]
    · rw [if_neg h, if_neg ?_, cnt_notP s T]; · omega
      intro he
      refine h ?_
      simp only [notP, isP, Bool.not_eq_true', decide_eq_false_iff_not]; omega
/-- occurrences, by the rank -/
theorem sum_rl (N : Nat) (L : List Z) (hL : ∀ x ∈ L, LeafZ N x) (s : Nat) (hs : s < N) (r : Nat) (hc : ∀ m, m ≤ L.length → cnt (L.take m) s = if r < m then 1 else 0) : ∀ j t, t ≤ (zlvl L j).length → sumAt (((zlvl L j).take t).map zr) s = ((rl L j t r : Nat) : Int)
  | 0, t, ht => by
    have h0 : ((zlvl L 0).take t).filter isP = [] := by
      rw [List.filter_eq_nil_iff]; intro x hx
      rw [leaf_notP (hL x (List.mem_of_mem_take hx))]; simp
    have e : cnt ((zlvl L 0).take t) s = if r < t then 1 else 0 := hc t ht
    rw [sum_split N s hs ((zlvl L 0).take t) fun x hx => .inl (hL x (List.mem_of_mem_take hx)), h0, e, rl, lf_zero N L hL t ht]
    split <;> simp [sumAt]
  | j + 1, t, ht => by
    obtain ⟨h1, h2⟩ := pk_take N L hL j t ht
    have hocc := occ_len N L hL
    have ih := sum_rl N L hL s hs r hc j _ h2
    have hp := sum_pk N s (zlvl L j).length (zlvl L j) 0 (t - lf L (j + 1) t) (Nat.le_refl _) (fun x hx => (hocc j x hx).1) h2
    rw [sum_split N s hs _ fun x hx => (hocc (j + 1) x (List.mem_of_mem_take hx)).2, h1, hp, ih, cnt_notP, take_notP N L hL, hc _ (lf_le N L hL _ _), rl]
    split <;> simp
theorem sumL_app (f : Z → Int) : ∀ a b : List Z, sumL f (a ++ b) = sumL f a + sumL f b
  | [], b => by simp [sumL]
  | x :: a, b => by rw [List.cons_append, sumL, sumL, sumL_app f a b]; omega
theorem sumL_rank (f : Z → Int) (g : Nat → Nat) (L : List Z) (h : ∀ (r : Nat) x, L[r]? = some x → f x = ((g r : Nat) : Int)) : ∀ m, m ≤ L.length → sumL f (L.take m) = ((sumN m g : Nat) : Int)
  | 0, _ => rfl
  | m + 1, hm => by
    rw [List.take_succ_eq_append_getElem (by omega), sumL_app, sumL_rank f g L h m (by omega), sumL, sumL, h m L[m] (List.getElem?_eq_getElem (by omega)), sumN]
    simp
/-- what is said of the lengths of a code, without the procedure -/
theorem complete_plain {counts ln : List Int} {limit : Int} (hck : checkH counts limit = 0) (hl : huffL counts limit = (ln, 0)) :
    ln.length = counts.length ∧ (∀ (i : Nat) c, counts[i]? = some c → ∃ v, ln[i]? = some v ∧ (0 < c → 1 ≤ v) ∧ (c ≤ 0 → v = 0) ∧ v ≤ limit) ∧
    (∀ (i k : Nat) c d u v, counts[i]? = some c → counts[k]? = some d → ln[i]? = some u → ln[k]? = some v → d < c → 0 < d → u ≤ v) ∧
    (2 ≤ (zleaves counts).length → msum limit (pres counts ln) = ((2 ^ limit.toNat : Nat) : Int)) := by
  obtain ⟨hl1, hl2, hcl, hc, hn⟩ := checkH_ok hck
  by_cases h2 : (zleaves counts).length < 2
  · rw [huff_few hck h2] at hl
    obtain rfl : counts.map one01 = ln := by simpa using hl
    refine ⟨by simp, fun i c h => ⟨one01 c, by rw [List.getElem?_map, h]; rfl, fun h => by rw [one01, if_pos h]; omega, fun h => by rw [one01, if_neg (by omega)], by rw [one01]; split <;> omega⟩, fun i k c d u v h1 h3 h4 h5 h6 h7 => ?_, fun h => by omega⟩
    rw [List.getElem?_map, h1] at h4
    rw [List.getElem?_map, h3] at h5
    simp only [Option.map_some, Option.some.injEq] at h4 h5
    subst h4; subst h5
    rw [one01, one01, if_pos (by omega), if_pos h7]; omega
  · have h2 : 2 ≤ (zleaves counts).length := by omega
    obtain ⟨ln', h1, hln, hzl, hs⟩ := huff_get hck h2
    rw [hl] at h1
    obtain rfl : ln = ln' := by simpa using h1
    have hL := zleaves_leaf counts
    have ha : Asc zle (zleaves counts) := isort_asc zle_ord _
    have hw : ∀ x ∈ zleaves counts, 0 < x.1.1.weight := fun x hx => (zleaves_cnt counts x hx).2
    have hsym := zleaves_sym counts
    obtain ⟨L, hLe⟩ : ∃ L, zleaves counts = L := ⟨_, rfl⟩
    obtain ⟨j, hj⟩ : ∃ j, limit.toNat - 1 = j := ⟨_, rfl⟩
    have hrank : ∀ (i : Nat) c, counts[i]? = some c → 0 < c → ∃ (r : Nat) (x : Z), L[r]? = some x ∧ x.1.1.symbol = (i : Int) ∧ x.1.1.weight = c := fun i c h h' => by rw [← hLe]; exact rank_of counts h h'
    have hcnt : ∀ x ∈ L, counts[x.1.1.symbol.toNat]? = some x.1.1.weight := fun x hx => by rw [← hLe] at hx; exact (zleaves_cnt counts x hx).1
    have hms := fun o h => msum_leaves limit counts o h
    rw [hLe] at h2 hL ha hw hsym hs hzl
    rw [hj] at hs hzl
    have hget : ∀ (r : Nat) (x : Z) (i : Nat), L[r]? = some x → x.1.1.symbol = (i : Int) → ln[i]? = some ((rl L j (2 * L.length - 2) r : Nat) : Int) := fun r x i hr hx => by
      have := hL x (List.mem_of_getElem? hr)
      have hi : i < counts.length := by have := this.2.1; omega
      rw [hs i hi, sum_rl counts.length L hL i hi r (fun m _ => cnt_take i L r m hsym ⟨x, hr, hx⟩) j _ hzl]
    refine ⟨hln, fun i c h => ?_, fun i k c d u v h1 h3 h4 h5 h6 h7 => ?_, fun _ => ?_⟩
    · by_cases hc0 : 0 < c
      · obtain ⟨r, x, h1, h3, h4⟩ := hrank i c h hc0
        have hr := (List.getElem?_eq_some_iff.1 h1).1
        have := rl_le L j (2 * L.length - 2) r
        have := rl_ge counts.length L hL h2 j (2 * L.length - 2) r hr (Nat.le_refl _) hzl
        exact ⟨_, hget r x i h1 h3, fun _ => by omega, fun h => by omega, by omega⟩
      · have hi := (List.getElem?_eq_some_iff.1 h).1
        refine ⟨0, ?_, fun h => by omega, fun _ => rfl, by omega⟩
        rw [hs i hi, sum_rl counts.length L hL i hi L.length (fun m hm => ?_) j _ hzl, (rl_zero counts.length L hL ha hw j _ L.length hzl (lf_le counts.length L hL _ _)).1]
        · rfl
        · rw [if_neg (by omega)]
          refine cnt_none i _ fun x hx he => ?_
          have h1 := hcnt x (List.mem_of_mem_take hx)
          have h3 := hw x (List.mem_of_mem_take hx)
          rw [he, Int.toNat_natCast, h] at h1
          have := Option.some.inj h1
          omega
    · obtain ⟨r, x, a1, a2, a3⟩ := hrank i c h1 (by omega)
      obtain ⟨q, y, b1, b2, b3⟩ := hrank k d h3 h7
      have hu := hget r x i a1 a2
      have hv := hget q y k b1 b2
      rw [h4] at hu; rw [h5] at hv
      have hu := Option.some.inj hu
      have hv := Option.some.inj hv
      have hqr : q ≤ r := by
        refine Nat.le_of_not_lt fun hlt => ?_
        obtain ⟨x1, x2⟩ := List.getElem?_eq_some_iff.1 a1
        obtain ⟨y1, y2⟩ := List.getElem?_eq_some_iff.1 b1
        have := List.pairwise_iff_getElem.1 ha r q x1 y1 hlt
        rw [x2, y2] at this
        simp only [zle, decide_eq_true_eq] at this
        omega
      have := rl_mono L j (2 * L.length - 2) q r hqr
      omega
    · rw [hms ln (by omega)]
      have hk := kraft_all counts.length L hL ha hw h2 j hzl
      have := sumL_rank (fun x => ((2 ^ (limit - ln.getD x.1.1.symbol.toNat 0).toNat : Nat) : Int)) (fun r => 2 ^ (j + 1 - rl L j (2 * L.length - 2) r)) L (fun r x hr => by
        have hx := hL x (List.mem_of_getElem? hr)
        have hsy : x.1.1.symbol = ((x.1.1.symbol.toNat : Nat) : Int) := by have := hx.1; omega
        have := hget r x x.1.1.symbol.toNat hr hsy
        have e : ln.getD x.1.1.symbol.toNat 0 = ((rl L j (2 * L.length - 2) r : Nat) : Int) := by rw [List.getD, this]; rfl
        rw [e, show (limit - ((rl L j (2 * L.length - 2) r : Nat) : Int)).toNat = j + 1 - rl L j (2 * L.length - 2) r by omega]) L.length (Nat.le_refl _)
      rw [List.take_length, hk] at this
      rw [hLe, this, show j + 1 = limit.toNat by omega]
end Go.Proofs.Ytlgdilkmcfpjjaa
namespace Go.Proofs.Ytlgdilkmcfpjjaa
open Go.Ab Go.Srt
set_option maxHeartbeats 20000000
set_option linter.unusedVariables false
set_option linter.unusedSimpArgs false
attribute [local irreducible] Run Ops Op1 Does Val Tr PureF Eff1 NF Rel EffV

theorem huff_ok {counts : List Int} {limit : Int} (hck0 : checkH counts limit = 0) : ∃ ln, huffL counts limit = (ln, 0) := by
  by_cases hz : 2 ≤ (zleaves counts).length
  · obtain ⟨ln, h1, h2, _⟩ := huff_get hck0 hz
    exact ⟨ln, h1⟩
  · exact ⟨_, huff_few hck0 (by omega)⟩
theorem lv_len2 : ∀ (l : List Int) (i j : Nat), (lv l i).length = (lv l j).length
  | [], _, _ => rfl
  | c :: r, i, j => by
    have := lv_len2 r (i + 1) (j + 1)
    rw [lv, lv]; split
    · rw [List.length_cons, List.length_cons, this]
    · exact this
theorem zleaves_len (counts : List Int) : (zleaves counts).length = (lv counts 0).length := by
  have := congrArg List.length (zleaves_i counts)
  rw [List.length_map, leavesL, isort_length] at this
  exact this
theorem complete_law (counts : List Int) (limit : Int) (hl : counts.length ≤ 9223372036854775807) : PureF Try.prog 5 [.d (ints counts), I .i64 limit] (B true) := by
  refine pure_of fun H => ?_
  refine spec_of Try.func5 (by kernel_rfl) rfl (by simp) ?_
  dsimp only [Try.f5]
  have h1 := rcheck_s counts limit hl
  have h2 := lengths_s counts limit hl
  by_cases h60 : 60 < counts.length
  · repeat' (first | (refine k_op1 ?_; (first | refine o_sv rfl (by decide) ?_ | (refine k_blt ?_; (refine o_val (v_lenm rfl) rfl rfl (by decide) ?_)))) | (refine k_ops ?_; (first | refine o_go (by first | exact .inl rfl | exact .inr ⟨_, _, _, rfl, rfl, rfl⟩) ?_ | refine o_nil ?_ | refine o_no rfl rfl (by decide) ?_ | refine o_casep rfl rfl (fun _ => ?_) (fun _ => ?_))) | (refine k_run ?_; (first | refine r_seq ?_ | refine r_region ?_ | refine r_true rfl ?_)))
    all_goals try (exfalso; omega)
    all_goals exact r_ret Try.func5 _ (res_one rfl rfl) ⟨rfl, rfl⟩
  by_cases hck : checkH counts limit ≠ 0
  · repeat' (first | (refine k_op1 ?_; (first | refine o_sv rfl (by decide) ?_ | (refine k_blt ?_; (refine o_val (v_lenm rfl) rfl rfl (by decide) ?_)) | (refine k_call ?_; (refine o_fn h1 rfl (by decide) ?_)))) | (refine k_ops ?_; (first | refine o_go (by first | exact .inl rfl | exact .inr ⟨_, _, _, rfl, rfl, rfl⟩) ?_ | refine o_nil ?_ | refine o_no rfl rfl (by decide) ?_ | refine o_casep rfl rfl (fun _ => ?_) (fun _ => ?_))) | (refine k_run ?_; (first | refine r_seq ?_ | refine r_region ?_ | refine r_true rfl ?_ | refine r_skip ?_ | refine r_ifn rfl (fun _ => ?_) (fun _ => ?_))))
    all_goals try (exfalso; omega)
    all_goals exact r_ret Try.func5 _ (res_one rfl rfl) ⟨rfl, rfl⟩
  have hck0 : checkH counts limit = 0 := by omega
  obtain ⟨hl1, hl2, hcl, hc, hn⟩ := checkH_ok hck0
  obtain ⟨ln, hln⟩ := huff_ok hck0
  obtain ⟨hll, hA, hB, hC⟩ := complete_plain hck0 hln
  rw [hck0] at h1
  rw [hln] at h2
  rw [zleaves_len] at hC
  dsimp only at h2
  repeat' (first | (refine k_op1 ?_; (first | refine o_sv rfl (by decide) ?_ | (refine k_blt ?_; (refine o_val (v_lenm rfl) rfl rfl (by decide) ?_)) | (refine k_call ?_; (first | refine o_fn h1 rfl (by decide) ?_ | refine o_fn h2 rfl (by decide) ?_)))) | (refine k_ops ?_; (first | refine o_go (by first | exact .inl rfl | exact .inr ⟨_, _, _, rfl, rfl, rfl⟩) ?_ | refine o_nil ?_ | refine o_no rfl rfl (by decide) ?_ | refine o_casep rfl rfl (fun _ => ?_) (fun _ => ?_))) | (refine k_run ?_; (first | refine r_seq ?_ | refine r_region ?_ | refine r_true rfl ?_ | refine r_false rfl ?_ | refine r_skip ?_ | refine r_block ?_ | refine r_ifn rfl (fun _ => ?_) (fun _ => ?_))))
  all_goals try (exfalso; omega)
  refine r_loop ?_
  refine r_less (r_inv (fun q : Nat × Int × Nat => ⟨120, [(0, .d (ints counts)), (1, I .i64 limit), (5, .d (ints ln)), (7, I .i64 q.2.1), (8, I .i64 (q.2.2 : Nat)), (37, .d (ints counts)), (38, I .i64 counts.length), (39, I .i64 (q.1 : Nat))], [], H⟩)
    (fun q => q.1 ≤ counts.length ∧ q.2.2 ≤ q.1 ∧ (0 ≤ q.2.1 ∧ q.2.1 ≤ q.1 * 32768) ∧ q.2.1 + msum limit (pres (counts.drop q.1) (ln.drop q.1)) = msum limit (pres counts ln) ∧ q.2.2 + (lv (counts.drop q.1) 0).length = (lv counts 0).length)
    (fun q => counts.length - q.1) ?_ (0, 0, 0) ⟨by simp, by simp, by simp, by simp, by simp⟩) rfl rfl
  intro ⟨i, s, p⟩ ⟨hi, hp, ⟨hs0, hs1⟩, e1, e2⟩ ih
  simp only at hi hp hs0 hs1 e1 e2 ih ⊢
  by_cases hlt : i < counts.length
  · obtain ⟨c, hx⟩ : ∃ x, counts[i]? = some x := ⟨_, List.getElem?_eq_getElem hlt⟩
    obtain ⟨v, hv, v1, v2, v3⟩ := hA i c hx
    have hcr := hc c (List.mem_of_getElem? hx)
    rw [drop_cons hx, drop_cons hv, pres] at e1
    rw [drop_cons hx, lv] at e2
    have hlv := lv_len2 (counts.drop (i + 1)) (0 + 1) 0
    by_cases hc0 : 0 < c
    · have v1 := v1 hc0
      rw [if_pos hc0] at e1 e2
      rw [msum] at e1
      rw [List.length_cons] at e2
      have hpw := pow15 (x := limit - v) (by omega)
      have hp0 : (0 : Int) ≤ ((2 ^ (limit - v).toNat : Nat) : Int) := Int.natCast_nonneg _
      have hdec : decide (0 < c) = decide (0 < v) := by rw [decide_eq_true hc0, decide_eq_true (by omega)]
      repeat' (first | (refine k_op1 ?_; (first | refine o_sv rfl (by decide) ?_ | (refine k_load ?_; (refine o_val (v_loade rfl rfl rfl) rfl rfl (by decide) ?_)) | (refine k_index ?_; (first | refine o_val (v_index rfl (by omega) (idx hx) rfl) rfl rfl (by decide) ?_ | refine o_val (v_index rfl (by omega) (idx hv) rfl) rfl rfl (by decide) ?_)) | (refine k_bin ?_; (first | refine o_val (v_shl0 (by omega) (by omega)) rfl rfl (by decide) ?_ | refine o_val (v_add (wi64 (by omega) (by omega))) rfl rfl (by decide) ?_ | refine o_val (v_sub (wi64 (by omega) (by omega))) rfl rfl (by decide) ?_ | refine o_val (v_bneq rfl) rfl rfl (by decide) ?_)) | (refine k_blt ?_; (refine o_val (v_lenm rfl) rfl rfl (by decide) ?_)) | (refine k_conv ?_; (refine o_val (v_conv rfl rfl (wu64 (by omega) (by omega))) rfl rfl (by decide) ?_)))) | (refine k_ops ?_; (first | refine o_go (by first | exact .inl rfl | exact .inr ⟨_, _, _, rfl, rfl, rfl⟩) ?_ | refine o_nil ?_ | refine o_no rfl rfl (by decide) ?_ | refine o_casep rfl rfl (fun _ => ?_) (fun _ => ?_) | refine o_casen rfl rfl (fun _ => ?_) (fun _ => ?_))) | (refine k_run ?_; (first | refine r_seq ?_ | refine r_region ?_ | refine r_true rfl ?_ | refine r_skip ?_ | refine r_block ?_ | refine r_if rfl (fun _ => ?_) (fun _ => ?_) | refine r_exit rfl ?_)))
      all_goals try (exfalso; first | omega | contradiction)
      refine r_loop ?_
      refine r_less (r_inv (fun k : Nat => ⟨120, [(0, .d (ints counts)), (1, I .i64 limit), (5, .d (ints ln)), (7, I .i64 (s + ((2 ^ (limit - v).toNat : Nat) : Int))), (8, I .i64 (((p : Nat) : Int) + 1)), (9, I .i64 (i : Nat)), (10, I .i64 c), (37, .d (ints counts)), (38, I .i64 counts.length), (39, I .i64 (i : Nat)), (81, .d (ints counts)), (82, I .i64 counts.length), (83, I .i64 (k : Nat))], [], H⟩) (fun k => k ≤ counts.length) (fun k => counts.length - k) ?_ 0 (by omega)) rfl rfl
      intro k hk ih2
      by_cases hlt2 : k < counts.length
      · obtain ⟨d, hd⟩ : ∃ x, counts[k]? = some x := ⟨_, List.getElem?_eq_getElem hlt2⟩
        obtain ⟨u, hu, _⟩ := hA k d hd
        have hB' := hB i k c d v u hx hd hv hu
        repeat' (first | (refine k_op1 ?_; (first | refine o_sv rfl (by decide) ?_ | (refine k_load ?_; (refine o_val (v_loade rfl rfl rfl) rfl rfl (by decide) ?_)) | (refine k_index ?_; (refine o_val (v_index rfl (by omega) (idx hd) rfl) rfl rfl (by decide) ?_)) | (refine k_bin ?_; (refine o_val (v_add (wi64 (by omega) (by omega))) rfl rfl (by decide) ?_)))) | (refine k_ops ?_; (first | refine o_go (by first | exact .inl rfl | exact .inr ⟨_, _, _, rfl, rfl, rfl⟩) ?_ | refine o_nil ?_)) | (refine k_run ?_; (first | refine r_seq ?_ | refine r_region ?_ | refine r_false rfl ?_ | refine r_skip ?_ | refine r_block ?_ | refine r_tr ?_ | refine r_inBlock ?_ | refine r_if rfl (fun _ => ?_) (fun _ => ?_) | refine r_exit rfl ?_)) | (refine k_tr ?_; (first | (refine kt_end ?_; refine t_end mix (by kernel_rfl) ?_) | refine t_pass rfl rfl (by decide) ?_ | refine t_sv rfl (by first | exact rfl | exact ⟨_, rfl, rfl, rfl⟩) (by decide) ?_ | (refine kt_load ?_; (refine t_val (v_loade rfl rfl rfl) (by first | exact rfl | exact ⟨_, rfl, rfl, rfl⟩) rfl rfl (by decide) ?_)) | (refine kt_index ?_; (first | refine t_val (v_index rfl (by omega) (idx hv) rfl) (by first | exact rfl | exact ⟨_, rfl, rfl, rfl⟩) rfl rfl (by decide) ?_ | refine t_val (v_index rfl (by omega) (idx hu) rfl) (by first | exact rfl | exact ⟨_, rfl, rfl, rfl⟩) rfl rfl (by decide) ?_)) | (refine t_either rfl rfl (fun hg => ?_) (fun hg => ?_) <;> simp only [hg] <;> (try simp only [decide_eq_true_eq, decide_eq_false_iff_not, Bool.not_eq_true', Bool.not_eq_false'] at hg)))))
        all_goals try (exfalso; omega)
        all_goals first
          | exact r_less (ih2 (k + 1) (by omega) (by omega)) rfl rfl
          | (exfalso; have := hB' (by omega) (by omega); omega)
      · obtain rfl : k = counts.length := by omega
        repeat' (first | (refine k_op1 ?_; (first | refine o_sv rfl (by decide) ?_ | (refine k_bin ?_; (refine o_val (v_add (wi64 (by omega) (by omega))) rfl rfl (by decide) ?_)))) | (refine k_ops ?_; (first | refine o_go (by first | exact .inl rfl | exact .inr ⟨_, _, _, rfl, rfl, rfl⟩) ?_ | refine o_nil ?_)) | (refine k_run ?_; (first | refine r_seq ?_ | refine r_region ?_ | refine r_skip ?_ | refine r_block ?_ | refine r_inBlock ?_ | refine r_if rfl (fun _ => ?_) (fun _ => ?_) | refine r_exit rfl ?_)))
        all_goals try (exfalso; omega)
        exact r_less (ih (i + 1, s + ((2 ^ (limit - v).toNat : Nat) : Int), p + 1) ⟨by simp only; omega, by simp only; omega, ⟨by simp only; omega, by simp only; omega⟩, by simp only; omega, by simp only; omega⟩ (by simp only; omega)) rfl rfl
    · have v2 := v2 (by omega)
      rw [if_neg hc0] at e1 e2
      have hdec : decide (0 < c) = decide (0 < v) := by rw [decide_eq_false hc0, decide_eq_false (by omega)]
      repeat' (first | (refine k_op1 ?_; (first | refine o_sv rfl (by decide) ?_ | (refine k_load ?_; (refine o_val (v_loade rfl rfl rfl) rfl rfl (by decide) ?_)) | (refine k_index ?_; (first | refine o_val (v_index rfl (by omega) (idx hx) rfl) rfl rfl (by decide) ?_ | refine o_val (v_index rfl (by omega) (idx hv) rfl) rfl rfl (by decide) ?_)) | (refine k_bin ?_; (first | refine o_val (v_add (wi64 (by omega) (by omega))) rfl rfl (by decide) ?_ | refine o_val (v_sub (wi64 (by omega) (by omega))) rfl rfl (by decide) ?_ | refine o_val (v_bneq rfl) rfl rfl (by decide) ?_)) | (refine k_blt ?_; (refine o_val (v_lenm rfl) rfl rfl (by decide) ?_)) | (refine k_conv ?_; (refine o_val (v_conv rfl rfl (wu64 (by omega) (by omega))) rfl rfl (by decide) ?_)))) | (refine k_ops ?_; (first | refine o_go (by first | exact .inl rfl | exact .inr ⟨_, _, _, rfl, rfl, rfl⟩) ?_ | refine o_nil ?_ | refine o_no rfl rfl (by decide) ?_ | refine o_casep rfl rfl (fun _ => ?_) (fun _ => ?_) | refine o_casen rfl rfl (fun _ => ?_) (fun _ => ?_))) | (refine k_run ?_; (first | refine r_seq ?_ | refine r_region ?_ | refine r_true rfl ?_ | refine r_skip ?_ | refine r_block ?_ | refine r_if rfl (fun _ => ?_) (fun _ => ?_) | refine r_exit rfl ?_)))
      all_goals try (exfalso; first | omega | contradiction)
      refine r_loop ?_
      refine r_less (r_inv (fun k : Nat => ⟨120, [(0, .d (ints counts)), (1, I .i64 limit), (5, .d (ints ln)), (7, I .i64 s), (8, I .i64 (p : Nat)), (9, I .i64 (i : Nat)), (10, I .i64 c), (37, .d (ints counts)), (38, I .i64 counts.length), (39, I .i64 (i : Nat)), (81, .d (ints counts)), (82, I .i64 counts.length), (83, I .i64 (k : Nat))], [], H⟩) (fun k => k ≤ counts.length) (fun k => counts.length - k) ?_ 0 (by omega)) rfl rfl
      intro k hk ih2
      by_cases hlt2 : k < counts.length
      · obtain ⟨d, hd⟩ : ∃ x, counts[k]? = some x := ⟨_, List.getElem?_eq_getElem hlt2⟩
        obtain ⟨u, hu, _⟩ := hA k d hd
        have hdr := hc d (List.mem_of_getElem? hd)
        repeat' (first | (refine k_op1 ?_; (first | refine o_sv rfl (by decide) ?_ | (refine k_load ?_; (refine o_val (v_loade rfl rfl rfl) rfl rfl (by decide) ?_)) | (refine k_index ?_; (refine o_val (v_index rfl (by omega) (idx hd) rfl) rfl rfl (by decide) ?_)) | (refine k_bin ?_; (refine o_val (v_add (wi64 (by omega) (by omega))) rfl rfl (by decide) ?_)))) | (refine k_ops ?_; (first | refine o_go (by first | exact .inl rfl | exact .inr ⟨_, _, _, rfl, rfl, rfl⟩) ?_ | refine o_nil ?_)) | (refine k_run ?_; (first | refine r_seq ?_ | refine r_region ?_ | refine r_false rfl ?_ | refine r_skip ?_ | refine r_block ?_ | refine r_tr ?_ | refine r_inBlock ?_ | refine r_if rfl (fun _ => ?_) (fun _ => ?_) | refine r_exit rfl ?_)) | (refine k_tr ?_; (first | (refine kt_end ?_; refine t_end mix (by kernel_rfl) ?_) | refine t_pass rfl rfl (by decide) ?_ | refine t_sv rfl (by first | exact rfl | exact ⟨_, rfl, rfl, rfl⟩) (by decide) ?_ | (refine kt_load ?_; (refine t_val (v_loade rfl rfl rfl) (by first | exact rfl | exact ⟨_, rfl, rfl, rfl⟩) rfl rfl (by decide) ?_)) | (refine kt_index ?_; (first | refine t_val (v_index rfl (by omega) (idx hv) rfl) (by first | exact rfl | exact ⟨_, rfl, rfl, rfl⟩) rfl rfl (by decide) ?_ | refine t_val (v_index rfl (by omega) (idx hu) rfl) (by first | exact rfl | exact ⟨_, rfl, rfl, rfl⟩) rfl rfl (by decide) ?_)) | (refine t_either rfl rfl (fun hg => ?_) (fun hg => ?_) <;> simp only [hg] <;> (try simp only [decide_eq_true_eq, decide_eq_false_iff_not, Bool.not_eq_true', Bool.not_eq_false'] at hg)))))
        all_goals try (exfalso; omega)
        all_goals exact r_less (ih2 (k + 1) (by omega) (by omega)) rfl rfl
      · obtain rfl : k = counts.length := by omega
        repeat' (first | (refine k_op1 ?_; (first | refine o_sv rfl (by decide) ?_ | (refine k_bin ?_; (refine o_val (v_add (wi64 (by omega) (by omega))) rfl rfl (by decide) ?_)))) | (refine k_ops ?_; (first | refine o_go (by first | exact .inl rfl | exact .inr ⟨_, _, _, rfl, rfl, rfl⟩) ?_ | refine o_nil ?_)) | (refine k_run ?_; (first | refine r_seq ?_ | refine r_region ?_ | refine r_skip ?_ | refine r_block ?_ | refine r_inBlock ?_ | refine r_if rfl (fun _ => ?_) (fun _ => ?_) | refine r_exit rfl ?_)))
        all_goals try (exfalso; omega)
        exact r_less (ih (i + 1, s, p) ⟨by simp only; omega, by simp only; omega, ⟨by simp only; omega, by simp only; omega⟩, by simp only; omega, by simp only; omega⟩ (by simp only; omega)) rfl rfl
  · obtain rfl : i = counts.length := by omega
    rw [List.drop_length, pres_nil, msum] at e1
    rw [List.drop_length, lv, List.length_nil] at e2
    have hfin : p < 2 ∨ s = ((2 ^ limit.toNat : Nat) : Int) := by
      by_cases h : 2 ≤ (lv counts 0).length
      · have := hC h
        right; omega
      · left; omega
    repeat' (first | (refine k_op1 ?_; (first | refine o_sv rfl (by decide) ?_ | (refine k_bin ?_; (refine o_val (v_shl1 (by omega) (by omega)) rfl rfl (by decide) ?_)) | (refine k_call ?_; (refine o_fn awake_s rfl (by decide) ?_)) | (refine k_conv ?_; (refine o_val (v_conv rfl rfl (wu64 (by omega) (by omega))) rfl rfl (by decide) ?_)))) | (refine k_ops ?_; (first | refine o_go (by first | exact .inl rfl | exact .inr ⟨_, _, _, rfl, rfl, rfl⟩) ?_ | refine o_nil ?_ | refine o_no rfl rfl (by decide) ?_ | refine o_casep rfl rfl (fun _ => ?_) (fun _ => ?_))) | (refine k_run ?_; (first | refine r_seq ?_ | refine r_region ?_ | refine r_skip ?_ | refine r_block ?_ | refine r_if rfl (fun _ => ?_) (fun _ => ?_) | refine r_exit rfl ?_)))
    all_goals try (exfalso; omega)
    all_goals exact r_ret Try.func5 _ (res_one rfl rfl) ⟨rfl, rfl⟩
end Go.Proofs.Ytlgdilkmcfpjjaa
