/- A law holds for every input; no condition. -/
import Derived.Test.YtlgdilkmcfpjjaaWi
set_option linter.all false
set_option linter.unusedVariables false
set_option linter.unusedSimpArgs false
namespace Go.Proofs.Ytlgdilkmcfpjjaa
open Go.Ab Go.Srt
set_option maxHeartbeats 20000000
set_option linter.unusedVariables false
set_option linter.unusedSimpArgs false
attribute [local irreducible] Run Ops Op1 Does Val Tr PureF Eff1 NF Rel EffV

theorem wsum_two (l : List Int) (r : List Nat) {p q i : Nat} (h : p < q) (hp : r[p]? = some i) : wsum l (r.take p) + W (l.getD i 0) ≤ wsum l (r.take q) := by
  have := wsum_take_le l (r.take q) p i (by rw [List.getElem?_take, if_pos h, hp])
  rwa [List.take_take, Nat.min_eq_left (by omega)] at this
theorem pow_up {d : Int} (h : d ≤ 15) : (0 : Int) < 2 ^ d.toNat ∧ (2 : Int) ^ d.toNat ≤ 32768 := ⟨Int.pow_pos (by omega), by
  have : (2 : Nat) ^ d.toNat ≤ 2 ^ 15 := Nat.pow_le_pow_right (by omega) (by omega)
  rw [← pow_int]; exact Int.ofNat_le.2 this⟩
/-- no code is the beginning of another one -/
theorem prefix_free {l : List Int} (hv : validH l = true) {i k : Nat} {n m ci ck : Int} (hik : i ≠ k) (hn : l[i]? = some n) (hm : l[k]? = some m) (h1 : 0 < n) (h2 : n ≤ m) (hci : (codesH l)[i]? = some ci) (hck : (codesH l)[k]? = some ck) :
    shrV .u64 ck (m - n) ≠ ci ∧ (n < m → shlV .u64 ci (m - n) ≤ ck) := by
  have hmi := mem_ordL hn h1
  have hmk := mem_ordL hm (by omega : 0 < m)
  obtain ⟨p, hp, ep⟩ := List.getElem_of_mem hmi
  obtain ⟨q, hq, eq⟩ := List.getElem_of_mem hmk
  have hp' : (ordL l)[p]? = some i := by rw [List.getElem?_eq_getElem hp, ep]
  have hq' : (ordL l)[q]? = some k := by rw [List.getElem?_eq_getElem hq, eq]
  obtain ⟨ci', a1, a2, a3⟩ := codes_val hv p i hp'
  obtain ⟨ck', b1, b2, b3⟩ := codes_val hv q k hq'
  rw [hci] at a1; rw [hck] at b1
  cases a1; cases b1
  rw [getD_some hn] at a3
  rw [getD_some hm] at b3
  obtain ⟨_, hr, _⟩ := validH_ok hv
  have hmr := hr m (List.mem_of_getElem? hm)
  have hWm := W_pos m
  have hsp := W_split h2 hmr.2
  obtain ⟨p0, p1⟩ := pow_up (d := m - n) (by omega)
  rw [shrV_eq b2 (by show (m - n).toNat ≤ 64; omega)]
  have hasc : ∀ a b : Nat, a < b → ∀ u v : Nat, (ordL l)[a]? = some u → (ordL l)[b]? = some v → l.getD u 0 ≤ l.getD v 0 := fun a b hab u v hu hv => by
    have := List.pairwise_iff_getElem.1 (isort_asc (lle_ord l) (pidx l 0))
    obtain ⟨hu1, hu2⟩ := List.getElem?_eq_some_iff.1 hu
    obtain ⟨hv1, hv2⟩ := List.getElem?_eq_some_iff.1 hv
    have := this a b hu1 hv1 hab
    have e1 : (isort (lle l) (pidx l 0))[a] = u := hu2
    have e2 : (isort (lle l) (pidx l 0))[b] = v := hv2
    rw [e1, e2, lle, decide_eq_true_eq] at this
    exact this
  rcases Nat.lt_trichotomy p q with hpq | hpq | hpq
  · have := wsum_two l (ordL l) hpq hp'
    rw [getD_some hn, ← a3, ← b3, hsp] at this
    have h3 : (ci + 1) * 2 ^ (m - n).toNat ≤ ck := by
      refine Int.le_of_mul_le_mul_right ?_ hWm
      rw [Int.mul_assoc, Int.add_mul, Int.one_mul]; exact this
    have h4 : ci + 1 ≤ ck / 2 ^ (m - n).toNat := (Int.le_ediv_iff_mul_le p0).2 h3
    refine ⟨by omega, fun _ => ?_⟩
    have hcf := code_fits hv hmi
    obtain ⟨c, c1, c2, c3⟩ := hcf
    rw [hci] at c1; cases c1
    rw [getD_some hn] at c3
    have hn15 := pow_up (d := n) (by omega)
    rw [shlV]
    have e : min (m - n).toNat IntKind.u64.bits = (m - n).toNat := Nat.min_eq_left (by show (m - n).toNat ≤ 64; omega)
    have hb : ci * 2 ^ (m - n).toNat ≤ 32768 * 32768 := Int.le_trans (Int.mul_le_mul_of_nonneg_right (by omega : ci ≤ 32768) (by omega)) (Int.mul_le_mul_of_nonneg_left p1 (by omega))
    rw [e, wu64 (Int.mul_nonneg a2 (by omega)) (by omega)]
    rw [Int.add_mul] at h3; omega
  · subst hpq
    rw [hp'] at hq'; cases hq'; exact absurd rfl hik
  · have hle := hasc q p hpq k i hq' hp'
    rw [getD_some hn, getD_some hm] at hle
    obtain rfl : m = n := by omega
    have := wsum_two l (ordL l) hpq hq'
    rw [getD_some hm, ← a3, ← b3] at this
    have h3 : ck + 1 ≤ ci := by
      refine Int.le_of_mul_le_mul_right ?_ hWm
      rw [Int.add_mul, Int.one_mul]; exact this
    rw [show (m - m).toNat = 0 by omega]
    refine ⟨by simp; omega, fun h => by omega⟩
theorem prefixes_law (l : List Int) (hl : l.length ≤ 9223372036854775807) : PureF Try.prog 9 [.d (ints l)] (B true) := by
  refine pure_of fun H => ?_
  refine spec_of Try.func9 (by kernel_rfl) rfl (by simp) ?_
  dsimp only [Try.f9]
  have h1 := codes_s l hl
  by_cases hv : validH l = true
  case neg =>
    rw [codesR, if_neg hv] at h1
    dsimp only at h1
    repeat' (first | (refine k_op1 ?_; (first | refine o_sv rfl (by decide) ?_ | (refine k_blt ?_; (refine o_val (v_lenm rfl) rfl rfl (by decide) ?_)) | (refine k_call ?_; (refine o_fn h1 rfl (by decide) ?_)))) | (refine k_ops ?_; (first | refine o_go (by first | exact .inl rfl | exact .inr ⟨_, _, _, rfl, rfl, rfl⟩) ?_ | refine o_nil ?_ | refine o_no rfl rfl (by decide) ?_ | refine o_casep rfl rfl (fun _ => ?_) (fun _ => ?_))) | (refine k_run ?_; (first | refine r_seq ?_ | refine r_region ?_ | refine r_true rfl ?_)))
    all_goals try (exfalso; omega)
    all_goals exact r_ret Try.func9 _ (res_one rfl rfl) ⟨rfl, rfl⟩
  rw [codesR, if_pos hv] at h1
  dsimp only at h1
  have hcl : (codesH l).length = l.length := by rw [codesH, cl_len, List.length_replicate]
  have hp := fun i k n m ci ck => @prefix_free l hv i k n m ci ck
  obtain ⟨_, hr, _⟩ := validH_ok hv
  obtain ⟨cs, hcs⟩ : ∃ cs, codesH l = cs := ⟨_, rfl⟩
  rw [hcs] at h1 hcl hp
  by_cases h60 : 60 < l.length
  · repeat' (first | (refine k_op1 ?_; (first | refine o_sv rfl (by decide) ?_ | (refine k_blt ?_; (refine o_val (v_lenm rfl) rfl rfl (by decide) ?_)) | (refine k_call ?_; (refine o_fn h1 rfl (by decide) ?_)))) | (refine k_ops ?_; (first | refine o_go (by first | exact .inl rfl | exact .inr ⟨_, _, _, rfl, rfl, rfl⟩) ?_ | refine o_nil ?_ | refine o_no rfl rfl (by decide) ?_ | refine o_casep rfl rfl (fun _ => ?_) (fun _ => ?_))) | (refine k_run ?_; (first | refine r_seq ?_ | refine r_region ?_ | refine r_true rfl ?_ | refine r_false rfl ?_ | refine r_skip ?_ | refine r_block ?_ | refine r_ifn rfl (fun _ => ?_) (fun _ => ?_))))
    all_goals try (exfalso; omega)
    all_goals exact r_ret Try.func9 _ (res_one rfl rfl) ⟨rfl, rfl⟩
  repeat' (first | (refine k_op1 ?_; (first | refine o_sv rfl (by decide) ?_ | (refine k_blt ?_; (refine o_val (v_lenm rfl) rfl rfl (by decide) ?_)) | (refine k_call ?_; (refine o_fn h1 rfl (by decide) ?_)))) | (refine k_ops ?_; (first | refine o_go (by first | exact .inl rfl | exact .inr ⟨_, _, _, rfl, rfl, rfl⟩) ?_ | refine o_nil ?_ | refine o_no rfl rfl (by decide) ?_ | refine o_casep rfl rfl (fun _ => ?_) (fun _ => ?_))) | (refine k_run ?_; (first | refine r_seq ?_ | refine r_region ?_ | refine r_true rfl ?_ | refine r_false rfl ?_ | refine r_skip ?_ | refine r_block ?_ | refine r_ifn rfl (fun _ => ?_) (fun _ => ?_))))
  all_goals try (exfalso; omega)
  refine r_loop ?_
  refine r_less (r_inv (fun i : Nat => ⟨110, [(0, .d (ints l)), (3, .d (u64s cs)), (26, .d (ints l)), (27, I .i64 l.length), (28, I .i64 (i : Nat))], [], H⟩) (fun i => i ≤ l.length) (fun i => l.length - i) ?_ 0 (by omega)) rfl rfl
  intro i hi ih
  by_cases hlt : i < l.length
  · obtain ⟨n, hn⟩ : ∃ x, l[i]? = some x := ⟨_, List.getElem?_eq_getElem hlt⟩
    obtain ⟨ci, hci⟩ : ∃ x, cs[i]? = some x := ⟨_, List.getElem?_eq_getElem (by omega)⟩
    have hnr := hr n (List.mem_of_getElem? hn)
    repeat' (first | (refine k_op1 ?_; (first | refine o_sv rfl (by decide) ?_ | (refine k_load ?_; (refine o_val (v_loade rfl rfl rfl) rfl rfl (by decide) ?_)) | (refine k_index ?_; (refine o_val (v_index rfl (by omega) (idx hn) rfl) rfl rfl (by decide) ?_)) | (refine k_blt ?_; (refine o_val (v_lenm rfl) rfl rfl (by decide) ?_)))) | (refine k_ops ?_; (first | refine o_go (by first | exact .inl rfl | exact .inr ⟨_, _, _, rfl, rfl, rfl⟩) ?_ | refine o_nil ?_)) | (refine k_run ?_; (first | refine r_seq ?_ | refine r_region ?_ | refine r_skip ?_ | refine r_block ?_ | refine r_if rfl (fun _ => ?_) (fun _ => ?_) | refine r_exit rfl ?_)))
    all_goals try (exfalso; omega)
    refine r_loop ?_
    refine r_less (r_inv (fun k : Nat => ⟨110, [(0, .d (ints l)), (3, .d (u64s cs)), (26, .d (ints l)), (27, I .i64 l.length), (28, I .i64 (i : Nat)), (5, I .i64 (i : Nat)), (6, I .i64 n), (33, .d (ints l)), (34, I .i64 l.length), (35, I .i64 (k : Nat))], [], H⟩) (fun k => k ≤ l.length) (fun k => l.length - k) ?_ 0 (by omega)) rfl rfl
    intro k hk ih2
    by_cases hlt2 : k < l.length
    · obtain ⟨m, hm⟩ : ∃ x, l[k]? = some x := ⟨_, List.getElem?_eq_getElem hlt2⟩
      obtain ⟨ck, hck⟩ : ∃ x, cs[k]? = some x := ⟨_, List.getElem?_eq_getElem (by omega)⟩
      have hmr := hr m (List.mem_of_getElem? hm)
      by_cases hs : i = k ∨ n = 0 ∨ m = 0 ∨ m < n
      · repeat' (first | (refine k_op1 ?_; (first | refine o_sv rfl (by decide) ?_ | (refine k_load ?_; (refine o_val (v_loade rfl rfl rfl) rfl rfl (by decide) ?_)) | (refine k_index ?_; (refine o_val (v_index rfl (by omega) (idx hm) rfl) rfl rfl (by decide) ?_)) | (refine k_bin ?_; (refine o_val (v_add (wi64 (by omega) (by omega))) rfl rfl (by decide) ?_)))) | (refine k_ops ?_; (first | refine o_go (by first | exact .inl rfl | exact .inr ⟨_, _, _, rfl, rfl, rfl⟩) ?_ | refine o_nil ?_ | refine o_no rfl rfl (by decide) ?_ | refine o_casep rfl rfl (fun _ => ?_) (fun _ => ?_))) | (refine k_run ?_; (first | refine r_seq ?_ | refine r_region ?_ | refine r_true rfl ?_ | refine r_skip ?_ | refine r_block ?_ | refine r_tr ?_ | refine r_inBlock ?_ | refine r_if rfl (fun _ => ?_) (fun _ => ?_) | refine r_exit rfl ?_)) | (refine k_tr ?_; (refine t_sv rfl (by first | exact rfl | exact ⟨_, rfl, rfl, rfl⟩) (by decide) ?_)))
        all_goals try (exfalso; omega)
        all_goals exact r_less (ih2 (k + 1) (by omega) (by omega)) rfl rfl
      · have hq := hp i k n m ci ck (by omega) hn hm (by omega) (by omega) hci hck
        obtain ⟨hq1, hq2⟩ := hq
        repeat' (first | (refine k_op1 ?_; (first | refine o_sv rfl (by decide) ?_ | (refine k_load ?_; (refine o_val (v_loade rfl rfl rfl) rfl rfl (by decide) ?_)) | (refine k_index ?_; (refine o_val (v_index rfl (by omega) (idx hm) rfl) rfl rfl (by decide) ?_)) | (refine k_bin ?_; (refine o_val (v_add (wi64 (by omega) (by omega))) rfl rfl (by decide) ?_)))) | (refine k_ops ?_; (first | refine o_go (by first | exact .inl rfl | exact .inr ⟨_, _, _, rfl, rfl, rfl⟩) ?_ | refine o_nil ?_ | refine o_no rfl rfl (by decide) ?_ | refine o_casep rfl rfl (fun _ => ?_) (fun _ => ?_))) | (refine k_run ?_; (first | refine r_seq ?_ | refine r_region ?_ | refine r_true rfl ?_ | refine r_false rfl ?_ | refine r_skip ?_ | refine r_block ?_ | refine r_tr ?_ | refine r_inBlock ?_ | refine r_if rfl (fun _ => ?_) (fun _ => ?_) | refine r_exit rfl ?_)) | (refine k_tr ?_; (first | (refine kt_end ?_; refine t_end mix (by kernel_rfl) ?_) | refine t_pass rfl rfl (by decide) ?_ | refine t_pass2 rfl rfl (by decide) ?_ | refine t_sv rfl (by first | exact rfl | exact ⟨_, rfl, rfl, rfl⟩) (by decide) ?_ | (refine kt_load ?_; (refine t_val (v_loade rfl rfl rfl) (by first | exact rfl | exact ⟨_, rfl, rfl, rfl⟩) rfl rfl (by decide) ?_)) | (refine kt_index ?_; (first | refine t_val (v_index rfl (by omega) (idx hck) rfl) (by first | exact rfl | exact ⟨_, rfl, rfl, rfl⟩) rfl rfl (by decide) ?_ | refine t_val (v_index rfl (by omega) (idx hci) rfl) (by first | exact rfl | exact ⟨_, rfl, rfl, rfl⟩) rfl rfl (by decide) ?_)) | (refine kt_bin ?_; (first | refine t_val (v_shr (by omega)) (by first | exact rfl | exact ⟨_, rfl, rfl, rfl⟩) rfl rfl (by decide) ?_ | refine t_val (v_shl (by omega)) (by first | exact rfl | exact ⟨_, rfl, rfl, rfl⟩) rfl rfl (by decide) ?_ | refine t_val (v_sub (wi64 (by omega) (by omega))) (by first | exact rfl | exact ⟨_, rfl, rfl, rfl⟩) rfl rfl (by decide) ?_)) | (refine kt_conv ?_; (refine t_val (v_conv rfl rfl (wu64 (by omega) (by omega))) (by first | exact rfl | exact ⟨_, rfl, rfl, rfl⟩) rfl rfl (by decide) ?_)) | (refine t_either rfl rfl (fun hg => ?_) (fun hg => ?_) <;> simp only [hg] <;> (try simp only [decide_eq_true_eq, decide_eq_false_iff_not, Bool.not_eq_true', Bool.not_eq_false'] at hg)))))
        all_goals try (exfalso; omega)
        all_goals first
          | exact r_less (ih2 (k + 1) (by omega) (by omega)) rfl rfl
          | (exfalso; have := hq2 (by omega); omega)
    · obtain rfl : k = l.length := by omega
      repeat' (first | (refine k_op1 ?_; (first | refine o_sv rfl (by decide) ?_ | (refine k_bin ?_; (refine o_val (v_add (wi64 (by omega) (by omega))) rfl rfl (by decide) ?_)))) | (refine k_ops ?_; (first | refine o_go (by first | exact .inl rfl | exact .inr ⟨_, _, _, rfl, rfl, rfl⟩) ?_ | refine o_nil ?_)) | (refine k_run ?_; (first | refine r_seq ?_ | refine r_region ?_ | refine r_skip ?_ | refine r_block ?_ | refine r_inBlock ?_ | refine r_if rfl (fun _ => ?_) (fun _ => ?_) | refine r_exit rfl ?_)))
      all_goals try (exfalso; omega)
      exact r_less (ih (i + 1) (by omega) (by omega)) rfl rfl
  · obtain rfl : i = l.length := by omega
    repeat' (first | (refine k_op1 ?_; (first | refine o_sv rfl (by decide) ?_ | (refine k_call ?_; (refine o_fn awake_s rfl (by decide) ?_)))) | (refine k_ops ?_; (first | refine o_go (by first | exact .inl rfl | exact .inr ⟨_, _, _, rfl, rfl, rfl⟩) ?_ | refine o_nil ?_)) | (refine k_run ?_; (first | refine r_seq ?_ | refine r_region ?_ | refine r_skip ?_ | refine r_block ?_ | refine r_if rfl (fun _ => ?_) (fun _ => ?_) | refine r_exit rfl ?_)))
    all_goals try (exfalso; omega)
    exact r_ret Try.func9 _ (res_one rfl rfl) ⟨rfl, rfl⟩
end Go.Proofs.Ytlgdilkmcfpjjaa
