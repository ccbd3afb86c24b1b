/- A law holds for every input; no condition. -/
import Derived.Test.YtlgdilkmcfpjjaaWn
import Derived.Test.YtlgdilkmcfpjjaaWo
import Derived.Test.YtlgdilkmcfpjjaaFf
set_option linter.all false
set_option linter.unusedVariables false
set_option linter.unusedSimpArgs false
namespace Go.Proofs.Ytlgdilkmcfpjjaa
open Go.Ab Go.Srt
set_option linter.unusedVariables false
set_option linter.unusedSimpArgs false

/-- a list sorted by a key, in three parts -/
theorem asc_parts {k : Nat → Int} (m : Int) : ∀ L : List Nat, L.Pairwise (fun a b => k a ≤ k b) → L = (L.filter fun i => decide (k i < m)) ++ (L.filter fun i => decide (k i = m)) ++ (L.filter fun i => decide (m < k i))
  | [], _ => rfl
  | x :: L, h => by
    obtain ⟨h1, h2⟩ := List.pairwise_cons.1 h
    have ih := asc_parts m L h2
    by_cases hx : k x < m
    · rw [List.filter_cons_of_pos (by simpa using hx), List.filter_cons_of_neg (by simp; omega), List.filter_cons_of_neg (by simp; omega), List.cons_append, List.cons_append, ← ih]
    · have e1 : (L.filter fun i => decide (k i < m)) = [] := List.filter_eq_nil_iff.2 fun y hy => by have := h1 y hy; simp; omega
      rw [e1] at ih
      by_cases hx2 : k x = m
      · rw [List.filter_cons_of_neg (by simp; omega), List.filter_cons_of_pos (by simpa using hx2), List.filter_cons_of_neg (by simp; omega), e1, List.nil_append, List.cons_append, ← List.nil_append (List.filter (fun i => decide (k i = m)) L), ← ih]
      · have e2 : (L.filter fun i => decide (k i = m)) = [] := List.filter_eq_nil_iff.2 fun y hy => by have := h1 y hy; simp; omega
        rw [e2] at ih
        rw [List.filter_cons_of_neg (by simp; omega), List.filter_cons_of_neg (by simp; omega), List.filter_cons_of_pos (by simp; omega), e1, e2, List.nil_append, List.nil_append, ← List.nil_append (List.filter (fun i => decide (m < k i)) L), ← List.nil_append ([] ++ _), ← List.append_assoc, ← ih]
theorem wsum_same (l : List Int) (m : Int) : ∀ r : List Nat, (∀ i ∈ r, l.getD i 0 = m) → wsum l r = r.length * W m
  | [], _ => by simp [wsum]
  | i :: r, h => by
    rw [wsum, wsum_same l m r fun j hj => h j (by simp [hj]), h i (by simp), List.length_cons]
    rw [Int.natCast_add, Int.add_mul]; simp; omega
theorem grpA_eq (l : List Int) (m : Nat) : grpA l m = (ordL l).filter fun i => decide (l.getD i 0 = (m : Int)) := by rw [grpA, grp, List.take_length]
/-- the codes of a length follow one another -/
theorem codes_run {l : List Int} (hv : validH l = true) {m j i : Nat} (h : (grpA l m)[j]? = some i) : l.getD i 0 = m ∧ i < l.length ∧ (codesH l)[i]? = some (fstC l (grpA l m) + (j : Nat)) ∧ 0 ≤ fstC l (grpA l m) := by
  have hasc : (ordL l).Pairwise (fun a b => l.getD a 0 ≤ l.getD b 0) := (isort_asc (lle_ord l) (pidx l 0)).imp (fun h => by simpa [lle] using h)
  have hp := asc_parts (k := fun i => l.getD i 0) (m : Int) (ordL l) hasc
  have hmem : i ∈ grpA l m := List.mem_of_getElem? h
  have hall : ∀ q ∈ grpA l m, l.getD q 0 = (m : Int) := fun q hq => by rw [grpA_eq, List.mem_filter] at hq; simpa using hq.2
  rw [← grpA_eq] at hp
  obtain ⟨A, hA⟩ : ∃ A, (ordL l).filter (fun i => decide (l.getD i 0 < (m : Int))) = A := ⟨_, rfl⟩
  obtain ⟨B, hB⟩ : ∃ B, (ordL l).filter (fun i => decide ((m : Int) < l.getD i 0)) = B := ⟨_, rfl⟩
  rw [hA, hB] at hp
  have hjl : j < (grpA l m).length := (List.getElem?_eq_some_iff.1 h).1
  have at_ : ∀ q z : Nat, (grpA l m)[q]? = some z → ∃ c, (codesH l)[z]? = some c ∧ 0 ≤ c ∧ c * W m = wsum l A + (q : Int) * W m := fun q z hq => by
    have hql : q < (grpA l m).length := (List.getElem?_eq_some_iff.1 hq).1
    have hz : (ordL l)[A.length + q]? = some z := by
      rw [hp, List.getElem?_append_left (by simp; omega), List.getElem?_append_right (by omega), show A.length + q - A.length = q by omega]; exact hq
    obtain ⟨c, c1, c2, c3⟩ := codes_val hv _ _ hz
    refine ⟨c, c1, c2, ?_⟩
    rw [hall z (List.mem_of_getElem? hq)] at c3
    rw [c3, hp, List.take_append_of_le_length (by simp; omega), List.take_append, List.take_of_length_le (by omega), wsum_append, show A.length + q - A.length = q by omega,
      wsum_same l m ((grpA l m).take q) fun y hy => hall y (List.mem_of_mem_take hy), List.length_take, Nat.min_eq_left (by omega)]
  obtain ⟨z, hz⟩ : ∃ z, (grpA l m)[0]? = some z := ⟨_, List.getElem?_eq_getElem (by omega)⟩
  obtain ⟨c0, a1, a2, a3⟩ := at_ 0 z hz
  obtain ⟨c, b1, b2, b3⟩ := at_ j i h
  have hf : fstC l (grpA l m) = c0 := by
    cases hg : grpA l m with
    | nil => rw [hg] at hz; simp at hz
    | cons y r => rw [hg] at hz; simp at hz; subst hz; simp [fstC, List.getD, a1]
  have hW := W_pos m
  have hcc : c = c0 + j := by
    have : c * W m = (c0 + j) * W m := by rw [Int.add_mul, b3, a3]; simp
    exact Int.eq_of_mul_eq_mul_right (Int.ne_of_gt hW) this
  refine ⟨hall i hmem, ?_, by rw [hf, ← hcc]; exact b1, by rw [hf]; exact a2⟩
  rw [grpA_eq, List.mem_filter] at hmem
  exact (ordL_mem l i hmem.1).1
theorem grp_of {l : List Int} {s m : Nat} (hs : l[s]? = some (m : Int)) (hm : 1 ≤ m) : ∃ j : Nat, (grpA l m)[j]? = some s := by
  have : s ∈ grpA l m := by
    rw [grpA_eq, List.mem_filter]
    exact ⟨mem_ordL hs (by omega), by simp [List.getD, hs]⟩
  exact List.getElem?_of_mem this
/-- what the reference's search finds -/
theorem rsc_alive_iff (v n : Int) (cs : List Int) : ∀ (t : List Int) (s : Nat) (F : Int) (A : Bool), (rsc v n cs t s F A).2 = true ↔ A = true ∨ ∃ (j : Nat) (k : Int), t[j]? = some k ∧ n ≤ k ∧ shrV .u64 (cs.getD (s + j) 0) (k - n) = v
  | [], s, F, A => by simp [rsc]
  | k :: t, s, F, A => by
    rw [rsc, rsc_alive_iff v n cs t (s + 1)]
    simp only [Bool.or_eq_true, Bool.and_eq_true, decide_eq_true_eq]
    constructor
    · rintro ((h | h) | ⟨j, k', h1, h2, h3⟩)
      · exact .inl h
      · exact .inr ⟨0, k, rfl, h.1, h.2⟩
      · exact .inr ⟨j + 1, k', h1, h2, by rw [show s + (j + 1) = s + 1 + j by omega]; exact h3⟩
    · rintro (h | ⟨j, k', h1, h2, h3⟩)
      · exact .inl (.inl h)
      · cases j with
        | zero => simp at h1; subst h1; exact .inl (.inr ⟨h2, h3⟩)
        | succ j => exact .inr ⟨j, k', by simpa using h1, h2, by rw [show s + 1 + j = s + (j + 1) by omega]; exact h3⟩
theorem rsc_none (v n : Int) (cs : List Int) : ∀ (t : List Int) (s : Nat) (F : Int) (A : Bool), (∀ j : Nat, t[j]? = some n → cs.getD (s + j) 0 ≠ v) → (rsc v n cs t s F A).1 = F
  | [], s, F, A, h => rfl
  | k :: t, s, F, A, h => by
    rw [rsc, if_neg fun hh => h 0 (by simp [hh.1]) hh.2]
    exact rsc_none v n cs t (s + 1) F _ fun j hj => by rw [show s + 1 + j = s + (j + 1) by omega]; exact h (j + 1) (by simpa using hj)
theorem rsc_one (v n : Int) (cs : List Int) : ∀ (t : List Int) (s : Nat) (F : Int) (A : Bool) (i : Nat), t[i]? = some n → cs.getD (s + i) 0 = v → (∀ j : Nat, t[j]? = some n → cs.getD (s + j) 0 = v → j = i) → (rsc v n cs t s F A).1 = ((s + i : Nat) : Int)
  | [], s, F, A, i, h1, h2, h3 => by simp at h1
  | k :: t, s, F, A, 0, h1, h2, h3 => by
    simp at h1
    rw [rsc, if_pos ⟨h1, h2⟩]
    exact rsc_none v n cs t (s + 1) _ _ fun j hj hc => absurd (h3 (j + 1) (by simpa using hj) (by rw [show s + (j + 1) = s + 1 + j by omega]; exact hc)) (by omega)
  | k :: t, s, F, A, i + 1, h1, h2, h3 => by
    rw [rsc, rsc_one v n cs t (s + 1) _ _ i (by simpa using h1) (by rw [show s + 1 + i = s + (i + 1) by omega]; exact h2) fun j hj hc => by
      have := h3 (j + 1) (by simpa using hj) (by rw [show s + (j + 1) = s + 1 + j by omega]; exact hc)
      omega]
    congr 1; omega
end Go.Proofs.Ytlgdilkmcfpjjaa
namespace Go.Proofs.Ytlgdilkmcfpjjaa
open Go.Ab Go.Srt
set_option linter.unusedVariables false
set_option linter.unusedSimpArgs false

theorem shr_d {c : Int} {d : Nat} (h0 : 0 ≤ c) (h1 : d ≤ 15) : shrV .u64 c ((d : Nat) : Int) = c / ((2 ^ d : Nat) : Int) := by
  rw [shrV_eq h0 (by simp [IntKind.bits]; omega), Int.toNat_natCast]; simp
theorem pow_pos' (d : Nat) : (0 : Int) < ((2 ^ d : Nat) : Int) := by
  have := Nat.two_pow_pos d
  omega
/-- the codes of a length: from the first on, all below a bound -/
theorem run_top {l : List Int} (hv : validH l = true) {m : Nat} (hm : m ≤ 15) (h : 0 < (grpA l m).length) : 0 ≤ fstC l (grpA l m) ∧ fstC l (grpA l m) + ((grpA l m).length : Nat) ≤ 32768 := by
  obtain ⟨i, hi⟩ : ∃ i, (grpA l m)[(grpA l m).length - 1]? = some i := ⟨_, List.getElem?_eq_getElem (by omega)⟩
  obtain ⟨h1, h2, h3, h4⟩ := codes_run hv hi
  have hmem : i ∈ ordL l := by
    have := List.mem_of_getElem? hi
    rw [grpA_eq, List.mem_filter] at this
    exact this.1
  obtain ⟨c, e1, e2, e3⟩ := code_fits hv hmem
  rw [h3] at e1
  simp only [Option.some.injEq] at e1
  rw [h1, Int.toNat_natCast] at e3
  have : (2 : Int) ^ m ≤ 32768 := (pow_up (d := (m : Int)) (by omega)).2
  exact ⟨h4, by omega⟩
theorem beg_iff {l : List Int} (hv : validH l = true) (v : Int) {n : Nat} (hn : 1 ≤ n) : begF l 15 v n = true ↔ ∃ (j : Nat) (k : Int), l[j]? = some k ∧ (n : Int) ≤ k ∧ shrV .u64 ((codesH l).getD j 0) (k - n) = v := by
  obtain ⟨_, hr, _⟩ := validH_ok hv
  constructor
  · intro h
    rw [begF, List.any_eq_true] at h
    obtain ⟨k, hk, hb⟩ := h
    rw [List.mem_range] at hk
    simp only [Bool.and_eq_true, decide_eq_true_eq, begK] at hb
    obtain ⟨hnk, ⟨hlen, hhi⟩, hlo⟩ := hb
    obtain ⟨t1, t2⟩ := run_top hv (by omega) hlen
    rw [wu64 (x := fstC l (grpA l k) + _) (by omega) (by omega), wu64 (by omega) (by omega), shr_d (by omega) (by omega)] at hhi
    rw [shr_d t1 (by omega)] at hlo
    obtain ⟨f, hf⟩ : ∃ f, fstC l (grpA l k) = f := ⟨_, rfl⟩
    rw [hf] at t1 t2 hhi hlo
    obtain ⟨P, hP⟩ : ∃ P, ((2 ^ (k - n) : Nat) : Int) = P := ⟨_, rfl⟩
    have hP0 : 0 < P := by rw [← hP]; exact pow_pos' _
    rw [hP] at hhi hlo
    have h1 : v * P ≤ f + ((grpA l k).length : Nat) - 1 := Int.le_trans (Int.mul_le_mul_of_nonneg_right hhi (by omega)) (Int.ediv_mul_le _ (by omega))
    have h2 : f < (v + 1) * P := by
      have := Int.lt_ediv_add_one_mul_self f hP0
      exact Int.lt_of_lt_of_le this (Int.mul_le_mul_of_nonneg_right (by omega) (by omega))
    obtain ⟨c, hc⟩ : ∃ c, max f (v * P) = c := ⟨_, rfl⟩
    have hcP : c / P = v := by
      rw [Int.ediv_eq_iff_of_pos hP0]
      have : (v + 1) * P = v * P + P := by rw [Int.add_mul, Int.one_mul]
      omega
    have hcr : f ≤ c ∧ c ≤ f + ((grpA l k).length : Nat) - 1 := by omega
    obtain ⟨s, hs⟩ : ∃ s, (grpA l k)[(c - f).toNat]? = some s := ⟨_, List.getElem?_eq_getElem (by omega)⟩
    obtain ⟨e1, e2, e3, _⟩ := codes_run hv hs
    rw [hf] at e3
    refine ⟨s, k, ?_, by omega, ?_⟩
    · rw [List.getElem?_eq_getElem e2]; rw [List.getD, List.getElem?_eq_getElem e2] at e1; simpa using e1
    · rw [show (codesH l).getD s 0 = c by rw [List.getD, e3]; simp; omega, show (k : Int) - n = ((k - n : Nat) : Int) by omega, shr_d (by omega) (by omega), hP, hcP]
  · rintro ⟨j, k, h1, h2, h3⟩
    have hk := hr k (List.mem_of_getElem? h1)
    obtain ⟨m, rfl⟩ : ∃ m : Nat, k = m := ⟨k.toNat, by omega⟩
    obtain ⟨q, hq⟩ := grp_of h1 (by omega)
    have hql : q < (grpA l m).length := (List.getElem?_eq_some_iff.1 hq).1
    obtain ⟨e1, e2, e3, e4⟩ := codes_run hv hq
    obtain ⟨t1, t2⟩ := run_top hv (m := m) (by omega) (by omega)
    have hc : (codesH l).getD j 0 = fstC l (grpA l m) + (q : Nat) := by rw [List.getD, e3]; rfl
    rw [hc, show (m : Int) - n = ((m - n : Nat) : Int) by omega, shr_d (by omega) (by omega)] at h3
    have hP0 := pow_pos' (m - n)
    refine begF_true (by omega) (by omega) (k := m) ?_
    rw [begK]
    simp only [Bool.and_eq_true, decide_eq_true_eq]
    rw [wu64 (x := fstC l (grpA l m) + _) (by omega) (by omega), wu64 (by omega) (by omega), shr_d (by omega) (by omega), shr_d (by omega) (by omega), ← h3]
    exact ⟨⟨by omega, Int.ediv_le_ediv hP0 (by omega)⟩, Int.ediv_le_ediv hP0 (by omega)⟩
/-- what the search finds is what the table has -/
theorem find_eq {l : List Int} (hv : validH l = true) (w : Int) {n : Nat} (hn : 1 ≤ n) (hn2 : n ≤ 15) (hw : 0 ≤ w) (hw2 : w < 65536) :
    (rsc w (n : Int) (codesH l) l 0 (-1) false).1 = if fstC l (grpA l n) ≤ w ∧ IntKind.u64.wrap (w - fstC l (grpA l n)) < ((grpA l n).length : Nat) then (((grpA l n).getD (IntKind.u64.wrap (w - fstC l (grpA l n))).toNat 0 : Nat) : Int) else -1 := by
  by_cases hz : 0 < (grpA l n).length
  · obtain ⟨t1, t2⟩ := run_top hv hn2 hz
    by_cases h : fstC l (grpA l n) ≤ w ∧ IntKind.u64.wrap (w - fstC l (grpA l n)) < ((grpA l n).length : Nat)
    · rw [if_pos h]
      obtain ⟨h1, h2⟩ := h
      rw [wu64 (by omega) (by omega)] at h2 ⊢
      obtain ⟨s, hs⟩ : ∃ s, (grpA l n)[(w - fstC l (grpA l n)).toNat]? = some s := ⟨_, List.getElem?_eq_getElem (by omega)⟩
      obtain ⟨e1, e2, e3, e4⟩ := codes_run hv hs
      rw [List.getD, hs, Option.getD_some]
      have hls : l[s]? = some (n : Int) := by rw [List.getElem?_eq_getElem e2]; rw [List.getD, List.getElem?_eq_getElem e2] at e1; simpa using e1
      rw [rsc_one w n (codesH l) l 0 (-1) false s hls (by rw [Nat.zero_add, List.getD, e3]; simp; omega) fun j hj hc => by
        obtain ⟨q, hq⟩ := grp_of hj hn
        obtain ⟨_, _, f3, _⟩ := codes_run hv hq
        rw [Nat.zero_add, List.getD, f3] at hc
        simp only [Option.getD_some] at hc
        rw [show (w - fstC l (grpA l n)).toNat = q by omega, hq] at hs
        simpa using hs, Nat.zero_add]
    · rw [if_neg h]
      refine rsc_none w n (codesH l) l 0 (-1) false fun j hj hc => h ?_
      obtain ⟨q, hq⟩ := grp_of hj hn
      have hql : q < (grpA l n).length := (List.getElem?_eq_some_iff.1 hq).1
      obtain ⟨_, _, f3, _⟩ := codes_run hv hq
      rw [Nat.zero_add, List.getD, f3] at hc
      simp only [Option.getD_some] at hc
      refine ⟨by omega, ?_⟩
      rw [wu64 (by omega) (by omega)]; omega
  · rw [if_neg fun h => by
      have := h.2
      have h0 : (0 : Int) ≤ IntKind.u64.wrap (w - fstC l (grpA l n)) := by simp [IntKind.wrap, IntKind.bits, IntKind.signed]; omega
      omega]
    refine rsc_none w n (codesH l) l 0 (-1) false fun j hj hc => ?_
    obtain ⟨q, hq⟩ := grp_of hj hn
    have hql : q < (grpA l n).length := (List.getElem?_eq_some_iff.1 hq).1
    omega
end Go.Proofs.Ytlgdilkmcfpjjaa
namespace Go.Proofs.Ytlgdilkmcfpjjaa
open Go.Ab Go.Srt
set_option linter.unusedVariables false
set_option linter.unusedSimpArgs false

theorem bit_tab : ∀ (x : Fin 256) (i : Fin 8), andV .u64 (shrV .u8 ((x.1 : Nat) : Int) (7 - ((i.1 : Nat) : Int))) 1 = if (!decide (andV .u8 ((x.1 : Nat) : Int) (shrV .u8 128 ((i.1 : Nat) : Int)) = 0)) = true then 1 else 0 := by decide +kernel
theorem bitv_ubit {b : List Int} (hb : ∀ x ∈ b, 0 ≤ x ∧ x < 256) (i : Nat) : bitv b i = if ubit b i = true then 1 else 0 := by
  have hx : 0 ≤ b.getD (i / 8) 0 ∧ b.getD (i / 8) 0 < 256 := by
    rw [List.getD]
    cases h : b[i / 8]? with
    | none => simp
    | some x => exact hb x (List.mem_of_getElem? h)
  have := bit_tab ⟨(b.getD (i / 8) 0).toNat, by omega⟩ ⟨i % 8, by omega⟩
  rw [bitv, ubit]
  simp only at this
  rw [show (((b.getD (i / 8) 0).toNat : Nat) : Int) = b.getD (i / 8) 0 by omega] at this
  exact this
theorem lor_one (n : Nat) : 2 * n ||| 1 = 2 * n + 1 := by
  apply Nat.eq_of_testBit_eq
  intro i
  rw [Nat.testBit_or]
  cases i with
  | zero => simp
  | succ i =>
    rw [Nat.testBit_succ, Nat.testBit_succ, Nat.testBit_succ]
    rw [show (2 * n) / 2 = n by omega, show (2 * n + 1) / 2 = n by omega]
    simp
theorem next_bit {v : Int} (h0 : 0 ≤ v) (h1 : v < 32768) (x : Bool) : orV .u64 (shlV .u64 v 1) (if x = true then 1 else 0) = v * 2 + if x = true then 1 else 0 := by
  have hs : shlV .u64 v 1 = v * 2 := by
    rw [shlV, show min (1 : Int).toNat IntKind.u64.bits = 1 by decide]
    exact wu64 (by omega) (by omega)
  rw [hs]
  obtain ⟨n, rfl⟩ : ∃ n : Nat, v = n := ⟨v.toNat, by omega⟩
  have e : BitVec.ofInt 64 ((n : Int) * 2) = BitVec.ofNat 64 (2 * n) := by
    rw [show (n : Int) * 2 = ((2 * n : Nat) : Int) by omega]; rfl
  have key : ∀ y : Nat, y < 2 → IntKind.u64.wrap ((BitVec.ofInt 64 ((n : Int) * 2) ||| BitVec.ofNat 64 y).toNat : Int) = ((2 * n ||| y : Nat) : Int) := fun y hy => by
    rw [e, BitVec.toNat_or, BitVec.toNat_ofNat, BitVec.toNat_ofNat, Nat.mod_eq_of_lt (by omega), Nat.mod_eq_of_lt (by omega)]
    have : 2 * n ||| y < 2 ^ 17 := Nat.or_lt_two_pow (by omega) (by omega)
    exact wu64 (by omega) (by omega)
  cases x with
  | false =>
    have := key 0 (by omega)
    rw [Nat.or_zero] at this
    exact this.trans (by simp; omega)
  | true =>
    have := key 1 (by omega)
    rw [lor_one] at this
    exact this.trans (by simp; omega)
theorem unpk_get {b : List Int} {N i : Nat} (h : i < N) : (unpk b N).getD i false = ubit b i := by
  rw [List.getD, unpk, List.getElem?_map, List.getElem?_range h]; rfl
theorem bitv_take {b : List Int} {N i : Nat} (h : i < N) : bitv (b.take ((N + 7) / 8)) i = bitv b i := by
  rw [bitv, bitv]
  congr 2
  rw [List.getD, List.getD, List.getElem?_take_of_lt (by omega)]
/-- the program and the reference read the same symbol -/
theorem sym_eq {l : List Int} (hv : validH l = true) {b : List Int} (hb : ∀ x ∈ b, 0 ≤ x ∧ x < 256) (N : Nat) : ∀ (f a m : Nat) (v : Int), 0 ≤ v → v < 2 ^ m → m ≤ 15 →
    symR l 15 (b.take ((N + 7) / 8)) N f a (m + 1) v = rsym l (codesH l) (unpk b N) f a v m
  | 0, a, m, v, h0, h1, h2 => rfl
  | f + 1, a, m, v, h0, h1, h2 => by
    have hP : (2 : Int) ^ m ≤ 32768 := (pow_up (d := (m : Int)) (by omega)).2
    have hlen : (unpk b N).length = N := by simp [unpk]
    rw [symR, rsym, hlen]
    by_cases ha : N ≤ a
    · rw [if_pos ha, if_pos ha]
    rw [if_neg ha, if_neg ha]
    simp only
    rw [bitv_take (by omega), bitv_ubit hb, next_bit h0 (by omega), unpk_get (by omega)]
    obtain ⟨w, hw⟩ : ∃ w, (v * 2 + if ubit b a = true then (1 : Int) else 0) = w := ⟨_, rfl⟩
    rw [hw]
    have hw0 : 0 ≤ w ∧ w < 2 ^ (m + 1) := by rw [Int.pow_succ, ← hw]; split <;> omega
    have hiff := (beg_iff hv w (n := m + 1) (by omega)).trans (rsc_alive_iff w ((m + 1 : Nat) : Int) (codesH l) l 0 (-1) false |>.trans (by simp)).symm
    cases hal : (rsc w ((m + 1 : Nat) : Int) (codesH l) l 0 (-1) false).2 with
    | false =>
      have hbf : begF l 15 w (m + 1) = false := by
        cases h : begF l 15 w (m + 1) with
        | false => rfl
        | true => rw [hiff.1 h] at hal; cases hal
      rw [if_pos hbf, if_pos rfl]
    | true =>
      have hbf := hiff.2 hal
      have hm : m + 1 ≤ 15 := by
        rcases rsc_alive w _ _ _ _ _ _ hal with h | ⟨k, hk, hk2⟩
        · cases h
        · have := (validH_ok hv).2.1 k hk; omega
      rw [if_neg (show ¬ (begF l 15 w (m + 1) = false) by rw [hbf]; simp), if_neg (show ¬ (true = false) by simp), find_eq hv w (by omega) hm hw0.1 (by omega)]
      by_cases hc : fstC l (grpA l (m + 1)) ≤ w ∧ IntKind.u64.wrap (w - fstC l (grpA l (m + 1))) < ((grpA l (m + 1)).length : Nat)
      · rw [if_pos hc, if_pos hc, if_neg (by omega)]
      · rw [if_neg hc, if_neg hc, if_pos (by omega)]
        exact sym_eq hv hb N f (a + 1) (m + 1) w hw0.1 hw0.2 hm
theorem dec_eq {l : List Int} (hv : validH l = true) {b : List Int} (hb : ∀ x ∈ b, 0 ≤ x ∧ x < 256) (N : Nat) : ∀ (c a : Nat) (acc : List Int), decL l 15 (b.take ((N + 7) / 8)) N c a acc = rdec l (codesH l) (unpk b N) c a acc
  | 0, a, acc => rfl
  | c + 1, a, acc => by
    rw [decL, rdec, sym_eq hv hb N 20 a 0 0 (by omega) (by simp) (by omega)]
    split
    · rfl
    · exact dec_eq hv hb N c _ _
theorem decL_pos {l : List Int} {b : List Int} (N : Nat) : ∀ (c a : Nat) (acc : List Int), a ≤ N → (decL l 15 b N c a acc).2.2 ≤ N
  | 0, a, acc, h => h
  | c + 1, a, acc, h => by
    rw [decL]
    split
    · exact h
    · exact decL_pos N c _ _ (symR_pos l 15 b N 20 a 1 0 h)
theorem decode_eq (l : List Int) {b : List Int} (hb : ∀ x ∈ b, 0 ≤ x ∧ x < 256) (bits count : Int) : decP l 15 b bits count = decR l b bits count := by
  rw [decP, decR]
  by_cases h1 : validH l = false ∨ count < 0 ∨ 4096 < count
  · rw [if_pos h1, if_pos (by rcases h1 with h | h | h <;> simp [h])]
  by_cases h2 : bits < 0 ∨ 8 * (b.length : Int) < bits
  · rw [if_neg h1, if_pos h2, if_pos (by rcases h2 with h | h <;> simp [h])]
  rw [if_neg h1, if_neg h2, if_neg (show ¬ (validH l = false ∨ bits < 0 ∨ 8 * (b.length : Int) < bits ∨ count < 0 ∨ 4096 < count) by
    rintro (h | h | h | h | h)
    · exact h1 (.inl h)
    · exact h2 (.inl h)
    · exact h2 (.inr h)
    · exact h1 (.inr (.inl h))
    · exact h1 (.inr (.inr h)))]
  have hv : validH l = true := by
    cases h : validH l with
    | true => rfl
    | false => exact absurd (.inl h) h1
  simp only
  have hpos := decL_pos (l := l) (b := b.take ((bits.toNat + 7) / 8)) bits.toNat count.toNat 0 [] (Nat.zero_le _)
  rw [dec_eq hv hb] at hpos ⊢
  obtain ⟨r, hr⟩ : ∃ r, rdec l (codesH l) (unpk b bits.toNat) count.toNat 0 [] = r := ⟨_, rfl⟩
  rw [hr] at hpos ⊢
  split
  · rfl
  · by_cases h : r.2.2 < bits.toNat
    · rw [if_pos h, if_pos (by omega)]
    · rw [if_neg h, if_neg (by omega)]
end Go.Proofs.Ytlgdilkmcfpjjaa
namespace Go.Proofs.Ytlgdilkmcfpjjaa
open Go.Ab Go.Srt
set_option maxHeartbeats 20000000
set_option linter.unusedVariables false
set_option linter.unusedSimpArgs false
attribute [local irreducible] Run Ops Op1 Does Val Tr PureF Eff1 NF Rel EffV

theorem decR_len (l b : List Int) (bits count : Int) : (decR l b bits count).1.length ≤ 4096 := by
  have key : ∀ (l cs : List Int) (L : List Bool) (c a : Nat) (acc : List Int), (rdec l cs L c a acc).1.length ≤ acc.length + c := by
    intro l cs L c
    induction c with
    | zero => intro a acc; simp [rdec]
    | succ c ih =>
      intro a acc
      rw [rdec]
      split
      · simp
      · refine Nat.le_trans (ih _ _) ?_
        simp; omega
  rw [decR]
  split
  · simp
  · rename_i h
    have h : ¬ (4096 < count) := fun hc => h (.inr (.inr (.inr (.inr hc))))
    have := key l (codesH l) (unpk b bits.toNat) count.toNat 0 []
    simp only
    split
    · simp
    · split
      · simp
      · simp at this ⊢; omega
theorem decode_s (l b : List Int) (bits count : Int) (hl : l.length ≤ 9223372036854775807) (hbl : b.length ≤ 100000) (hb : ∀ x ∈ b, 0 ≤ x ∧ x < 256) : PureF Try.prog 21 [.d (ints l), .d (bytesL b), I .i64 bits, I .i64 count] (.tup [.d (ints (decR l b bits count).1), I .i64 (decR l b bits count).2]) := by
  rw [← decode_eq l hb]
  by_cases h1 : validH l = false ∨ count < 0 ∨ 4096 < count
  · have := decode_bad l b bits count hl hbl h1
    rw [decP, if_pos h1]; exact this
  have hv : validH l = true := by
    cases h : validH l with
    | true => rfl
    | false => exact absurd (.inl h) h1
  by_cases h2 : bits < 0 ∨ 8 * (b.length : Int) < bits
  · have := decode_bits l b bits count hl hbl hv (by omega) (by omega) h2
    rw [decP, if_neg h1, if_pos h2]; exact this
  obtain ⟨N, rfl⟩ : ∃ N : Nat, bits = N := ⟨bits.toNat, by omega⟩
  obtain ⟨c, rfl⟩ : ∃ c : Nat, count = c := ⟨count.toNat, by omega⟩
  exact decode_good l b N c hl hbl hb hv (by omega) (by omega)
theorem rdecode_s (l b : List Int) (bits count : Int) (hl : l.length ≤ 9223372036854775807) (hbl : b.length ≤ 100000) : PureF Try.prog 22 [.d (ints l), .d (bytesL b), I .i64 bits, I .i64 count] (.tup [.d (ints (decR l b bits count).1), I .i64 (decR l b bits count).2]) := by
  by_cases h1 : validH l = false ∨ bits < 0 ∨ 8 * (b.length : Int) < bits ∨ count < 0 ∨ 4096 < count
  · have := rdecode_bad l b bits count hl hbl h1
    rw [decR, if_pos h1]; exact this
  have hv : validH l = true := by
    cases h : validH l with
    | true => rfl
    | false => exact absurd (.inl h) h1
  obtain ⟨N, rfl⟩ : ∃ N : Nat, bits = N := ⟨bits.toNat, by omega⟩
  obtain ⟨c, rfl⟩ : ∃ c : Nat, count = c := ⟨count.toNat, by omega⟩
  exact rdecode_good l b N c hl hbl hv (by omega) (by omega)
theorem decodes_law (l b : List Int) (bits count : Int) (hl : l.length ≤ 9223372036854775807) (hbl : b.length ≤ 9223372036854775807) (hb : ∀ x ∈ b, 0 ≤ x ∧ x < 256) : PureF Try.prog 10 [.d (ints l), .d (.agg [bytesL b, Dint bits, Dint count])] (B true) := by
  refine pure_of fun H => ?_
  refine spec_of Try.func10 (by kernel_rfl) rfl (by simp) ?_
  dsimp only [Try.f10]
  by_cases h40 : 40 < l.length
  · repeat' (first | (refine k_op1 ?_; (first | refine o_sv rfl (by decide) ?_ | (refine k_load ?_; (refine o_val (v_load rfl rfl rfl rfl) rfl rfl (by decide) ?_)) | (refine k_field ?_; (refine o_val (v_field rfl rfl) rfl rfl (by decide) ?_)) | (refine k_blt ?_; (refine o_val (v_lenm rfl) rfl rfl (by decide) ?_)) | (refine k_box ?_; (refine o_does (d_box_d rfl rfl (by decide)) ?_)))) | (refine k_ops ?_; (first | refine o_go (by first | exact .inl rfl | exact .inr ⟨_, _, _, rfl, rfl, rfl⟩) ?_ | refine o_nil ?_ | refine o_no rfl rfl (by decide) ?_ | refine o_casep rfl rfl (fun _ => ?_) (fun _ => ?_))) | (refine k_run ?_; (first | refine r_seq ?_ | refine r_region ?_ | refine r_true rfl ?_ | refine r_skip ?_ | refine r_if rfl (fun _ => ?_) (fun _ => ?_))))
    all_goals try (exfalso; omega)
    all_goals exact r_ret Try.func10 _ (res_one rfl rfl) ⟨rfl, rfl⟩
  by_cases h41 : 40 < b.length
  · repeat' (first | (refine k_op1 ?_; (first | refine o_sv rfl (by decide) ?_ | (refine k_load ?_; (refine o_val (v_load rfl rfl rfl rfl) rfl rfl (by decide) ?_)) | (refine k_field ?_; (refine o_val (v_field rfl rfl) rfl rfl (by decide) ?_)) | (refine k_blt ?_; (refine o_val (v_lenm rfl) rfl rfl (by decide) ?_)) | (refine k_box ?_; (refine o_does (d_box_d rfl rfl (by decide)) ?_)))) | (refine k_ops ?_; (first | refine o_go (by first | exact .inl rfl | exact .inr ⟨_, _, _, rfl, rfl, rfl⟩) ?_ | refine o_nil ?_ | refine o_no rfl rfl (by decide) ?_ | refine o_casep rfl rfl (fun _ => ?_) (fun _ => ?_))) | (refine k_run ?_; (first | refine r_seq ?_ | refine r_region ?_ | refine r_true rfl ?_ | refine r_skip ?_ | refine r_if rfl (fun _ => ?_) (fun _ => ?_))))
    all_goals try (exfalso; omega)
    all_goals exact r_ret Try.func10 _ (res_one rfl rfl) ⟨rfl, rfl⟩
  have h1 := decode_s l b bits count hl (by omega) hb
  have h2 := rdecode_s l b bits count hl (by omega)
  have hlen := decR_len l b bits count
  have h3 := same_s (decR l b bits count).1 (decR l b bits count).1 (by omega) (by omega)
  rw [decide_eq_true rfl] at h3
  repeat' (first | (refine k_op1 ?_; (first | refine o_sv rfl (by decide) ?_ | (refine k_load ?_; (refine o_val (v_load rfl rfl rfl rfl) rfl rfl (by decide) ?_)) | (refine k_field ?_; (refine o_val (v_field rfl rfl) rfl rfl (by decide) ?_)) | (refine k_blt ?_; (refine o_val (v_lenm rfl) rfl rfl (by decide) ?_)) | (refine k_call ?_; (first | refine o_fn h1 rfl (by decide) ?_ | refine o_fn h2 rfl (by decide) ?_ | refine o_fn h3 rfl (by decide) ?_ | refine o_fn awake_s rfl (by decide) ?_)) | (refine k_box ?_; (refine o_does (d_box_d rfl rfl (by decide)) ?_)))) | (refine k_ops ?_; (first | refine o_go (by first | exact .inl rfl | exact .inr ⟨_, _, _, rfl, rfl, rfl⟩) ?_ | refine o_nil ?_ | refine o_no rfl rfl (by decide) ?_ | refine o_casep rfl rfl (fun _ => ?_) (fun _ => ?_))) | (refine k_run ?_; (first | refine r_seq ?_ | refine r_region ?_ | refine r_true rfl ?_ | refine r_skip ?_ | refine r_if rfl (fun _ => ?_) (fun _ => ?_))))
  all_goals try (exfalso; omega)
  all_goals exact r_ret Try.func10 _ (res_one rfl rfl) ⟨rfl, rfl⟩
theorem sh_byte {x : List D} (h : Sh Try.prog 5 x) : ∃ z : Int, x = [Du8 z] ∧ (0 ≤ z ∧ z < 256) := by
  obtain ⟨z, h1, h2, h3⟩ := h.inv_int (k := .u8) (by kernel_rfl)
  simp [IntKind.min, IntKind.max, IntKind.bits, IntKind.signed] at h2 h3
  exact ⟨z, h1, by omega, by omega⟩
theorem sh_bits {ds : List D} (h : ShL Try.prog [32, 3, 3] ds) : ∃ (b : List Int) (n c : Int), ds = [bytesL b, Dint n, Dint c] ∧ b.length ≤ 9223372036854775807 ∧ ∀ x ∈ b, 0 ≤ x ∧ x < 256 := by
  obtain ⟨a, _, rfl, h1, b, _, rfl, h2, c, _, rfl, h3, rfl⟩ := h
  obtain ⟨l, rfl, hl, hq⟩ := h1.inv_list (e := 5) (fun x : Int => [Du8 x]) (fun z => 0 ≤ z ∧ z < 256) (by kernel_rfl) fun x hx => sh_byte hx
  obtain ⟨n, rfl, _⟩ := h2.inv_int (k := .i64) (by kernel_rfl)
  obtain ⟨c, rfl, _⟩ := h3.inv_int (k := .i64) (by kernel_rfl)
  exact ⟨l, n, c, rfl, hl, hq⟩
end Go.Proofs.Ytlgdilkmcfpjjaa
