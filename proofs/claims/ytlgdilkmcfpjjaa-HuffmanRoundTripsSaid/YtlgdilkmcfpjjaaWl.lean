/- The least sum that a code has, for every input. -/
import Derived.Test.YtlgdilkmcfpjjaaWi
import Derived.Test.YtlgdilkmcfpjjaaWj
set_option linter.all false
set_option linter.unusedVariables false
set_option linter.unusedSimpArgs false
namespace Go.Proofs.Ytlgdilkmcfpjjaa
open Go.Ab Go.Srt
set_option maxHeartbeats 20000000
set_option linter.unusedVariables false
set_option linter.unusedSimpArgs false
attribute [local irreducible] Run Ops Op1 Does Val Tr PureF Eff1 NF Rel EffV

theorem pow15 {x : Int} : x ≤ 15 → (2 ^ x.toNat : Nat) ≤ 32768 := fun h => by
  have : (2 : Nat) ^ x.toNat ≤ 2 ^ 15 := Nat.pow_le_pow_right (by omega) (by omega)
  omega
theorem cst_prod {c x : Int} (h1 : 0 ≤ c) (h2 : c ≤ 4096) (h3 : 0 ≤ x) (h4 : x ≤ 15) : 0 ≤ c * x ∧ c * x ≤ 61440 := ⟨Int.mul_nonneg h1 h3, by
  have := Int.mul_le_mul h2 h4 h3 (by omega : (0 : Int) ≤ 4096)
  omega⟩
theorem optimal_law (counts other : List Int) (limit : Int) (hl : counts.length ≤ 9223372036854775807) (hlo : other.length ≤ 9223372036854775807) : PureF Try.prog 4 [.d (ints counts), .d (ints other), I .i64 limit] (B true) := by
  refine pure_of fun H => ?_
  refine spec_of Try.func4 (by kernel_rfl) rfl (by simp) ?_
  dsimp only [Try.f4]
  have h1 := rcheck_s counts limit hl
  have h2 := lengths_s counts limit hl
  by_cases h30 : 30 < counts.length
  · repeat' (first | (refine k_op1 ?_; (first | refine o_sv rfl (by decide) ?_ | (refine k_blt ?_; (refine o_val (v_lenm rfl) rfl rfl (by decide) ?_)))) | (refine k_ops ?_; (first | refine o_go (by first | exact .inl rfl | exact .inr ⟨_, _, _, rfl, rfl, rfl⟩) ?_ | refine o_nil ?_ | refine o_no rfl rfl (by decide) ?_ | refine o_casep rfl rfl (fun _ => ?_) (fun _ => ?_))) | (refine k_run ?_; (first | refine r_seq ?_ | refine r_region ?_ | refine r_true rfl ?_)))
    all_goals try (exfalso; omega)
    all_goals exact r_ret Try.func4 _ (res_one rfl rfl) ⟨rfl, rfl⟩
  by_cases hoth : other.length < counts.length
  · repeat' (first | (refine k_op1 ?_; (first | refine o_sv rfl (by decide) ?_ | (refine k_blt ?_; (refine o_val (v_lenm rfl) rfl rfl (by decide) ?_)))) | (refine k_ops ?_; (first | refine o_go (by first | exact .inl rfl | exact .inr ⟨_, _, _, rfl, rfl, rfl⟩) ?_ | refine o_nil ?_ | refine o_no rfl rfl (by decide) ?_ | refine o_casep rfl rfl (fun _ => ?_) (fun _ => ?_))) | (refine k_run ?_; (first | refine r_seq ?_ | refine r_region ?_ | refine r_true rfl ?_)))
    all_goals try (exfalso; omega)
    all_goals exact r_ret Try.func4 _ (res_one rfl rfl) ⟨rfl, rfl⟩
  by_cases hck : checkH counts limit ≠ 0
  · repeat' (first | (refine k_op1 ?_; (first | refine o_sv rfl (by decide) ?_ | (refine k_blt ?_; (refine o_val (v_lenm rfl) rfl rfl (by decide) ?_)) | (refine k_call ?_; (refine o_fn h1 rfl (by decide) ?_)))) | (refine k_ops ?_; (first | refine o_go (by first | exact .inl rfl | exact .inr ⟨_, _, _, rfl, rfl, rfl⟩) ?_ | refine o_nil ?_ | refine o_no rfl rfl (by decide) ?_ | refine o_casep rfl rfl (fun _ => ?_) (fun _ => ?_))) | (refine k_run ?_; (first | refine r_seq ?_ | refine r_region ?_ | refine r_true rfl ?_ | refine r_skip ?_ | refine r_ifn rfl (fun _ => ?_) (fun _ => ?_))))
    all_goals try (exfalso; omega)
    all_goals exact r_ret Try.func4 _ (res_one rfl rfl) ⟨rfl, rfl⟩
  have hck0 : checkH counts limit = 0 := by omega
  obtain ⟨hl1, hl2, hcl, hc, hn⟩ := checkH_ok hck0
  obtain ⟨ln, hln⟩ : ∃ ln, huffL counts limit = (ln, 0) := by
    by_cases hz : 2 ≤ (zleaves counts).length
    · obtain ⟨ln, h1, h2, _⟩ := huff_get hck0 hz
      exact ⟨ln, h1⟩
    · exact ⟨_, huff_few hck0 (by omega)⟩
  obtain ⟨hll, hl0⟩ := huff_nonneg hck0 hln
  have hbd := huff_bound hck0 hln
  rw [hck0] at h1
  rw [hln] at h2
  dsimp only at h2
  repeat' (first | (refine k_op1 ?_; (first | refine o_sv rfl (by decide) ?_ | (refine k_blt ?_; (refine o_val (v_lenm rfl) rfl rfl (by decide) ?_)) | (refine k_call ?_; (first | refine o_fn h1 rfl (by decide) ?_ | refine o_fn h2 rfl (by decide) ?_)))) | (refine k_ops ?_; (first | refine o_go (by first | exact .inl rfl | exact .inr ⟨_, _, _, rfl, rfl, rfl⟩) ?_ | refine o_nil ?_ | refine o_no rfl rfl (by decide) ?_ | refine o_casep rfl rfl (fun _ => ?_) (fun _ => ?_))) | (refine k_run ?_; (first | refine r_seq ?_ | refine r_region ?_ | refine r_true rfl ?_ | refine r_false rfl ?_ | refine r_skip ?_ | refine r_block ?_ | refine r_ifn rfl (fun _ => ?_) (fun _ => ?_))))
  all_goals try (exfalso; omega)
  refine r_slot_row 10 1000 3 1 rfl (by decide) rfl ?_
  refine r_loop ?_
  refine r_less (r_inv (fun q : Nat × List Int × Int × Int => ⟨114, [(0, .d (ints counts)), (1, .d (ints other)), (2, I .i64 limit), (8, .d (ints ln)), (10, .ref (0, 1000)), (11, I .i64 0), (12, I .i64 q.2.2.1), (13, I .i64 q.2.2.2), (49, .d (ints counts)), (50, I .i64 counts.length), (51, I .i64 (q.1 : Nat))], [(1000, .row 3 1 (q.2.1.map fun x => [Dint x]))], H⟩)
    (fun q => q.1 ≤ counts.length ∧ q.2.1.length ≤ q.1 ∧ (∀ x ∈ q.2.1, 1 ≤ x ∧ x ≤ limit) ∧ (∀ j, j < q.1 → 1 ≤ other.getD j 0 ∧ other.getD j 0 ≤ limit) ∧ (0 ≤ q.2.2.1 ∧ q.2.2.1 ≤ q.1 * 61440) ∧ 0 ≤ q.2.2.2 ∧ q.2.1 ++ pres (counts.drop q.1) (other.drop q.1) = pres counts other ∧ q.2.2.1 + cst (counts.drop q.1) (other.drop q.1) = cst counts other ∧ q.2.2.2 + cst (counts.drop q.1) (ln.drop q.1) = cst counts ln)
    (fun q => counts.length - q.1) ?_ (0, [], 0, 0) ⟨by simp, by simp, by simp, by simp, by simp, Int.le_refl _, rfl, by simp, by simp⟩) rfl rfl
  intro ⟨k, m, cost, least⟩ ⟨hk, hm, hmx, hoj, ⟨hc0, hc1⟩, hd0, e1, e2, e3⟩ ih
  simp only at hk hm hmx hoj hc0 hc1 hd0 e1 e2 e3 ih ⊢
  by_cases hlt : k < counts.length
  · obtain ⟨x, hx⟩ : ∃ x, counts[k]? = some x := ⟨_, List.getElem?_eq_getElem hlt⟩
    obtain ⟨y, hy⟩ : ∃ y, other[k]? = some y := ⟨_, List.getElem?_eq_getElem (by omega)⟩
    obtain ⟨z, hz⟩ : ∃ z, ln[k]? = some z := ⟨_, List.getElem?_eq_getElem (by omega)⟩
    have hz0 := hl0 z (List.mem_of_getElem? hz)
    have hr0 := cst_nonneg (counts.drop (k + 1)) (ln.drop (k + 1)) fun v hv => hl0 v (List.mem_of_mem_drop hv)
    have hxr := hc x (List.mem_of_getElem? hx)
    by_cases hyr : y < 1 ∨ limit < y
    · repeat' (first | (refine k_op1 ?_; (first | refine o_sv rfl (by decide) ?_ | (refine k_load ?_; (refine o_val (v_loade rfl rfl rfl) rfl rfl (by decide) ?_)) | (refine k_index ?_; (first | refine o_val (v_index rfl (by omega) (idx hx) rfl) rfl rfl (by decide) ?_ | refine o_val (v_index rfl (by omega) (idx hy) rfl) rfl rfl (by decide) ?_ | refine o_val (v_index rfl (by omega) (idx hz) rfl) rfl rfl (by decide) ?_)) | (refine k_bin ?_; (first | refine o_val (v_add (wi64 (by omega) (by omega))) rfl rfl (by decide) ?_ | refine o_val (v_mul (wi64 (by omega) (by omega))) rfl rfl (by decide) ?_)) | (refine k_blt ?_; (first | refine o_val (v_lenrm rfl) rfl rfl (by decide) ?_ | refine o_app1 rfl rfl _ rfl rfl rfl rfl rfl rfl rfl (by decide) (by omega) ?_)) | (refine k_lit ?_; (refine o_lit rfl rfl rfl rfl rfl rfl rfl rfl (by decide) ?_)))) | (refine k_ops ?_; (first | refine o_go (by first | exact .inl rfl | exact .inr ⟨_, _, _, rfl, rfl, rfl⟩) ?_ | refine o_nil ?_ | refine o_no rfl rfl (by decide) ?_ | refine o_casep rfl rfl (fun _ => ?_) (fun _ => ?_))) | (refine k_run ?_; (first | refine r_seq ?_ | refine r_region ?_ | refine r_true rfl ?_ | refine r_skip ?_ | refine r_block ?_ | refine r_inBlock ?_ | refine r_if rfl (fun _ => ?_) (fun _ => ?_) | refine r_exit rfl ?_)))
      all_goals try (exfalso; omega)
      all_goals exact r_ret Try.func4 _ (res_one rfl rfl) ⟨rfl, rfl⟩
    rw [drop_cons hx, drop_cons hy, pres] at e1
    rw [drop_cons hx, drop_cons hy, cst] at e2
    rw [drop_cons hx, drop_cons hz, cst] at e3
    have hojk : ∀ j, j < k + 1 → 1 ≤ other.getD j 0 ∧ other.getD j 0 ≤ limit := fun j hj => by
      by_cases hjk : j < k
      · exact hoj j hjk
      · obtain rfl : j = k := by omega
        rw [getD_some hy]; omega
    by_cases hx0 : 0 < x
    · rw [if_pos hx0] at e1 e2 e3
      have hp1 := cst_prod hxr.1 hxr.2 (by omega : 0 ≤ y) (by omega)
      have hp2 := Int.mul_nonneg hxr.1 hz0
      repeat' (first | (refine k_op1 ?_; (first | refine o_sv rfl (by decide) ?_ | (refine k_load ?_; (refine o_val (v_loade rfl rfl rfl) rfl rfl (by decide) ?_)) | (refine k_index ?_; (first | refine o_val (v_index rfl (by omega) (idx hx) rfl) rfl rfl (by decide) ?_ | refine o_val (v_index rfl (by omega) (idx hy) rfl) rfl rfl (by decide) ?_ | refine o_val (v_index rfl (by omega) (idx hz) rfl) rfl rfl (by decide) ?_)) | (refine k_bin ?_; (first | refine o_val (v_mul (wi64 (by omega) (by omega))) rfl rfl (by decide) ?_ | refine o_val (v_add (wi64 (by omega) (by omega))) rfl rfl (by decide) ?_)) | (refine k_blt ?_; (first | refine o_app1 (g := fun i : Int => [Dint i]) rfl rfl y rfl rfl rfl rfl rfl rfl rfl (by decide) (by omega) ?_ | refine o_val (v_lenrm rfl) rfl rfl (by decide) ?_)) | (refine k_lit ?_; (refine o_lit rfl rfl rfl rfl rfl rfl rfl rfl (by decide) ?_)))) | (refine k_ops ?_; (first | refine o_go (by first | exact .inl rfl | exact .inr ⟨_, _, _, rfl, rfl, rfl⟩) ?_ | refine o_nil ?_ | refine o_no rfl rfl (by decide) ?_ | refine o_casep rfl rfl (fun _ => ?_) (fun _ => ?_))) | (refine k_run ?_; (first | refine r_seq ?_ | refine r_region ?_ | refine r_true rfl ?_ | refine r_skip ?_ | refine r_block ?_ | refine r_inBlock ?_ | refine r_if rfl (fun _ => ?_) (fun _ => ?_) | refine r_exit rfl ?_)))
      all_goals try (exfalso; omega)
      refine r_ren 72 1000 rfl rfl ?_
      refine r_less (ih (k + 1, m ++ [y], cost + x * y, least + x * z) ⟨by simp only; omega, by simp; omega, ?_, hojk, ⟨by simp only; omega, by simp only; omega⟩, by simp only; omega, by simp only; rw [← e1]; simp, by simp only; omega, by simp only; omega⟩ (by simp only; omega)) rfl rfl
      intro w hw
      simp only [List.mem_append, List.mem_singleton] at hw
      rcases hw with hw | rfl
      · exact hmx w hw
      · omega
    · rw [if_neg hx0] at e1 e2 e3
      repeat' (first | (refine k_op1 ?_; (first | refine o_sv rfl (by decide) ?_ | (refine k_load ?_; (refine o_val (v_loade rfl rfl rfl) rfl rfl (by decide) ?_)) | (refine k_index ?_; (first | refine o_val (v_index rfl (by omega) (idx hx) rfl) rfl rfl (by decide) ?_ | refine o_val (v_index rfl (by omega) (idx hy) rfl) rfl rfl (by decide) ?_ | refine o_val (v_index rfl (by omega) (idx hz) rfl) rfl rfl (by decide) ?_)) | (refine k_bin ?_; (first | refine o_val (v_add (wi64 (by omega) (by omega))) rfl rfl (by decide) ?_ | refine o_val (v_mul (wi64 (by omega) (by omega))) rfl rfl (by decide) ?_)) | (refine k_blt ?_; (first | refine o_val (v_lenrm rfl) rfl rfl (by decide) ?_ | refine o_app1 rfl rfl _ rfl rfl rfl rfl rfl rfl rfl (by decide) (by omega) ?_)) | (refine k_lit ?_; (refine o_lit rfl rfl rfl rfl rfl rfl rfl rfl (by decide) ?_)))) | (refine k_ops ?_; (first | refine o_go (by first | exact .inl rfl | exact .inr ⟨_, _, _, rfl, rfl, rfl⟩) ?_ | refine o_nil ?_ | refine o_no rfl rfl (by decide) ?_ | refine o_casep rfl rfl (fun _ => ?_) (fun _ => ?_))) | (refine k_run ?_; (first | refine r_seq ?_ | refine r_region ?_ | refine r_true rfl ?_ | refine r_skip ?_ | refine r_block ?_ | refine r_inBlock ?_ | refine r_if rfl (fun _ => ?_) (fun _ => ?_) | refine r_exit rfl ?_)))
      all_goals try (exfalso; omega)
      exact r_less (ih (k + 1, m, cost, least) ⟨by simp only; omega, by simp only; omega, hmx, hojk, ⟨by simp only; omega, by simp only; omega⟩, by simp only; omega, e1, by simp only; omega, by simp only; omega⟩ (by simp only; omega)) rfl rfl
  · obtain rfl : k = counts.length := by omega
    rw [List.drop_length, pres_nil, List.append_nil] at e1
    rw [List.drop_length, cst_nil] at e2 e3
    have hopt := opt_plain hck0 hln (by omega) hoj
    rw [← e1] at hopt
    refine r_freeze 1000 rfl ?_
    repeat' (first | (refine k_op1 ?_; (first | refine o_sv rfl (by decide) ?_ | (refine k_blt ?_; (refine o_val (v_lenm rfl) rfl rfl (by decide) ?_)))) | (refine k_ops ?_; (first | refine o_go (by first | exact .inl rfl | exact .inr ⟨_, _, _, rfl, rfl, rfl⟩) ?_ | refine o_nil ?_)) | (refine k_run ?_; (first | refine r_seq ?_ | refine r_region ?_ | refine r_skip ?_ | refine r_block ?_ | refine r_if rfl (fun _ => ?_) (fun _ => ?_) | refine r_exit rfl ?_)))
    all_goals try (exfalso; omega)
    refine r_loop ?_
    refine r_less (r_inv (fun q : Nat × Int => ⟨114, [(2, I .i64 limit), (11, I .i64 q.2), (12, I .i64 cost), (13, I .i64 least), (87, .d (ints m)), (88, I .i64 m.length), (89, I .i64 (q.1 : Nat))], [], H⟩)
      (fun q => q.1 ≤ m.length ∧ (0 ≤ q.2 ∧ q.2 ≤ q.1 * 32768) ∧ q.2 + msum limit (m.drop q.1) = msum limit m)
      (fun q => m.length - q.1) ?_ (0, 0) ⟨by simp, by simp, by simp⟩) rfl rfl
    intro ⟨q, s⟩ ⟨hq, ⟨hs0, hs1⟩, e4⟩ ih2
    simp only at hq hs0 hs1 e4 ih2 ⊢
    by_cases hlt2 : q < m.length
    · obtain ⟨y, hy⟩ : ∃ y, m[q]? = some y := ⟨_, List.getElem?_eq_getElem hlt2⟩
      rw [drop_cons hy, msum] at e4
      have hyr := hmx y (List.mem_of_getElem? hy)
      have hp := pow15 (x := limit - y) (by omega)
      have hp0 : (0 : Int) ≤ ((2 ^ (limit - y).toNat : Nat) : Int) := Int.natCast_nonneg _
      repeat' (first | (refine k_op1 ?_; (first | refine o_sv rfl (by decide) ?_ | (refine k_load ?_; (refine o_val (v_loade rfl rfl rfl) rfl rfl (by decide) ?_)) | (refine k_index ?_; (refine o_val (v_index rfl (by omega) (idx hy) rfl) rfl rfl (by decide) ?_)) | (refine k_bin ?_; (first | refine o_val (v_shl0 (by omega) (by omega)) rfl rfl (by decide) ?_ | refine o_val (v_add (wi64 (by omega) (by omega))) rfl rfl (by decide) ?_ | refine o_val (v_sub (wi64 (by omega) (by omega))) rfl rfl (by decide) ?_)) | (refine k_conv ?_; (refine o_val (v_conv rfl rfl (wu64 (by omega) (by omega))) rfl rfl (by decide) ?_)))) | (refine k_ops ?_; (first | refine o_go (by first | exact .inl rfl | exact .inr ⟨_, _, _, rfl, rfl, rfl⟩) ?_ | refine o_nil ?_ | refine o_no rfl rfl (by decide) ?_ | refine o_casep rfl rfl (fun _ => ?_) (fun _ => ?_))) | (refine k_run ?_; (first | refine r_seq ?_ | refine r_region ?_ | refine r_skip ?_ | refine r_block ?_ | refine r_inBlock ?_ | refine r_if rfl (fun _ => ?_) (fun _ => ?_) | refine r_exit rfl ?_)))
      all_goals try (exfalso; omega)
      exact r_less (ih2 (q + 1, s + ((2 ^ (limit - y).toNat : Nat) : Int)) ⟨by simp only; omega, ⟨by simp only; omega, by simp only; omega⟩, by simp only; omega⟩ (by simp only; omega)) rfl rfl
    · obtain rfl : q = m.length := by omega
      rw [List.drop_length, msum] at e4
      have hfin : ((2 ^ limit.toNat : Nat) : Int) < s ∨ least ≤ cost := by
        by_cases h : msum limit m ≤ ((2 ^ limit.toNat : Nat) : Int)
        · have := hopt h
          right; omega
        · left; omega
      repeat' (first | (refine k_op1 ?_; (first | refine o_sv rfl (by decide) ?_ | (refine k_bin ?_; (refine o_val (v_shl1 (by omega) (by omega)) rfl rfl (by decide) ?_)) | (refine k_call ?_; (refine o_fn awake_s rfl (by decide) ?_)) | (refine k_conv ?_; (refine o_val (v_conv rfl rfl (wu64 (by omega) (by omega))) rfl rfl (by decide) ?_)))) | (refine k_ops ?_; (first | refine o_go (by first | exact .inl rfl | exact .inr ⟨_, _, _, rfl, rfl, rfl⟩) ?_ | refine o_nil ?_ | refine o_no rfl rfl (by decide) ?_ | refine o_casep rfl rfl (fun _ => ?_) (fun _ => ?_))) | (refine k_run ?_; (first | refine r_seq ?_ | refine r_region ?_ | refine r_skip ?_ | refine r_block ?_ | refine r_if rfl (fun _ => ?_) (fun _ => ?_) | refine r_exit rfl ?_)))
      all_goals try (exfalso; omega)
      all_goals exact r_ret Try.func4 _ (res_one rfl rfl) ⟨rfl, rfl⟩
end Go.Proofs.Ytlgdilkmcfpjjaa
