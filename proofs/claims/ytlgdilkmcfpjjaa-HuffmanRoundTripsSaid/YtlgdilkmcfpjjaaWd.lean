/- What the procedure for the lengths computes, for every input. -/
import Derived.Test.YtlgdilkmcfpjjaaWa
import Derived.Test.YtlgdilkmcfpjjaaWb
set_option linter.all false
set_option linter.unusedVariables false
set_option linter.unusedSimpArgs false
namespace Go.Proofs.Ytlgdilkmcfpjjaa
open Go.Ab
set_option maxHeartbeats 20000000
set_option linter.unusedVariables false
set_option linter.unusedSimpArgs false
attribute [local irreducible] Run Ops Op1 Does Val Tr PureF Eff1 NF Rel

/-- two lists of numbers are the same -/
theorem same_s (l m : List Int) (hl : l.length ≤ 1000000) (hm : m.length ≤ 1000000) : PureF Try.prog 14 [.d (ints l), .d (ints m)] (B (decide (l = m))) := by
  refine pure_of fun H => ?_
  refine spec_of Try.func14 (by kernel_rfl) rfl (by simp) ?_
  dsimp only [Try.f14]
  by_cases hlm : l.length = m.length
  · repeat' (first | (refine k_op1 ?_; (first | refine o_sv rfl (by decide) ?_ | (refine k_blt ?_; (refine o_val (v_lenm rfl) rfl rfl (by decide) ?_)))) | (refine k_ops ?_; (first | refine o_go (by first | exact .inl rfl | exact .inr ⟨_, _, _, rfl, rfl, rfl⟩) ?_ | refine o_nil ?_)) | (refine k_run ?_; (first | refine r_seq ?_ | refine r_region ?_ | refine r_skip ?_ | refine r_block ?_ | refine r_ifn rfl (fun _ => ?_) (fun _ => ?_))))
    all_goals try (exfalso; omega)
    refine r_loop ?_
    refine r_less (r_inv (fun k : Nat => ⟨26, [(0, .d (ints l)), (1, .d (ints m)), (12, I .i64 l.length), (13, I .i64 k)], [], H⟩) (fun k => k ≤ l.length ∧ l.take k = m.take k) (fun k => l.length - k) ?_ 0 ⟨by omega, by simp⟩) rfl rfl
    intro k ⟨hk, he⟩ ih
    by_cases hlt : k < l.length
    · obtain ⟨x, hx⟩ : ∃ x, l[k]? = some x := ⟨_, List.getElem?_eq_getElem hlt⟩
      obtain ⟨y, hy⟩ : ∃ y, m[k]? = some y := ⟨_, List.getElem?_eq_getElem (by omega)⟩
      repeat' (first | (refine k_op1 ?_; (first | refine o_sv rfl (by decide) ?_ | (refine k_bin ?_; (refine o_val (v_add (wi64 (by omega) (by omega))) rfl rfl (by decide) ?_)))) | (refine k_ops ?_; (first | refine o_go (by first | exact .inl rfl | exact .inr ⟨_, _, _, rfl, rfl, rfl⟩) ?_ | refine o_nil ?_)) | (refine k_run ?_; (first | refine r_seq ?_ | refine r_region ?_ | refine r_skip ?_ | refine r_block ?_ | refine r_tr ?_ | refine r_inBlock ?_ | refine r_if rfl (fun _ => ?_) (fun _ => ?_) | refine r_ifn rfl (fun _ => ?_) (fun _ => ?_) | refine r_exit rfl ?_)) | (refine k_tr ?_; (first | (refine kt_end ?_; refine t_end mix (by kernel_rfl) ?_) | refine t_sv rfl (by first | exact rfl | exact ⟨_, rfl, rfl, rfl⟩) (by decide) ?_ | (refine kt_load ?_; (refine t_val (v_loade rfl rfl rfl) (by first | exact rfl | exact ⟨_, rfl, rfl, rfl⟩) rfl rfl (by decide) ?_)) | (refine kt_index ?_; (first | refine t_val (v_index rfl (by omega) (idx hx) rfl) (by first | exact rfl | exact ⟨_, rfl, rfl, rfl⟩) rfl rfl (by decide) ?_ | refine t_val (v_index rfl (by omega) (idx hy) rfl) (by first | exact rfl | exact ⟨_, rfl, rfl, rfl⟩) rfl rfl (by decide) ?_)))))
      all_goals try (exfalso; omega)
      all_goals first
        | (refine r_ret Try.func14 _ (res_one rfl rfl) ⟨?_, rfl⟩
           have hne : l ≠ m := by
             intro h; subst h; rw [hx] at hy; simp at hy; contradiction
           simp [hne])
        | (refine r_less (ih (k + 1) ⟨by omega, ?_⟩ (by omega)) rfl rfl
           rw [List.take_add_one, List.take_add_one, he, hx, hy]
           simp_all)
    · obtain rfl : k = l.length := by omega
      repeat' (first | (refine k_op1 ?_; (refine o_sv rfl (by decide) ?_)) | (refine k_ops ?_; (first | refine o_go (by first | exact .inl rfl | exact .inr ⟨_, _, _, rfl, rfl, rfl⟩) ?_ | refine o_nil ?_)) | (refine k_run ?_; (first | refine r_seq ?_ | refine r_region ?_ | refine r_skip ?_ | refine r_block ?_ | refine r_tr ?_ | refine r_if rfl (fun _ => ?_) (fun _ => ?_) | refine r_exit rfl ?_)) | (refine k_tr ?_; (refine t_sv rfl (by first | exact rfl | exact ⟨_, rfl, rfl, rfl⟩) (by decide) ?_)))
      all_goals try (exfalso; omega)
      refine r_ret Try.func14 _ (res_one rfl rfl) ⟨?_, rfl⟩
      rw [List.take_length, hlm, List.take_length] at he
      simp [he]
  · repeat' (first | (refine k_op1 ?_; (first | refine o_sv rfl (by decide) ?_ | (refine k_blt ?_; (refine o_val (v_lenm rfl) rfl rfl (by decide) ?_)))) | (refine k_ops ?_; (first | refine o_go (by first | exact .inl rfl | exact .inr ⟨_, _, _, rfl, rfl, rfl⟩) ?_ | refine o_nil ?_)) | (refine k_run ?_; (first | refine r_seq ?_ | refine r_region ?_ | refine r_skip ?_ | refine r_block ?_ | refine r_ifn rfl (fun _ => ?_) (fun _ => ?_))))
    all_goals try (exfalso; omega)
    refine r_ret Try.func14 _ (res_one rfl rfl) ⟨?_, rfl⟩
    have hne : l ≠ m := by intro h; subst h; exact hlm rfl
    simp [hne]

/-- the present symbols, counted; none if a count is out of range -/
def chk : List Int → Nat → Option Nat
  | [], p => some p
  | x :: r, p => if x < 0 ∨ 4096 < x then none else chk r (if 0 < x then p + 1 else p)
def checkH (counts : List Int) (limit : Int) : Int :=
  if limit < 1 ∨ 15 < limit then 1 else if 1024 < counts.length then 2 else match chk counts 0 with
    | none => 8
    | some p => if 2 ^ limit.toNat < p then 2 else 0
theorem shl_limit {limit : Int} (h1 : 1 ≤ limit) (h2 : limit ≤ 15) : shlV .i64 1 limit = ((2 ^ limit.toNat : Nat) : Int) := by
  have : limit = 1 ∨ limit = 2 ∨ limit = 3 ∨ limit = 4 ∨ limit = 5 ∨ limit = 6 ∨ limit = 7 ∨ limit = 8 ∨ limit = 9 ∨ limit = 10 ∨ limit = 11 ∨ limit = 12 ∨ limit = 13 ∨ limit = 14 ∨ limit = 15 := by omega
  rcases this with h | h | h | h | h | h | h | h | h | h | h | h | h | h | h <;> subst h <;> rfl
theorem v_shl1 {P : Program} {ty tx ty' : TypeId} {x y : Operand} {limit : Int} {k2 : IntKind} (h1 : 1 ≤ limit) (h2 : limit ≤ 15) : Val P (.binOp .shl tx x y ty') ty [(x, I .i64 1), (y, I k2 limit)] [] (I .i64 ((2 ^ limit.toNat : Nat) : Int)) := by
  have := v_shl (P := P) (ty := ty) (tx := tx) (ty' := ty') (x := x) (y := y) (k := .i64) (k2 := k2) (a := 1) (b := limit) (by omega)
  rwa [shl_limit h1 h2] at this

theorem check_s (counts : List Int) (limit : Int) (hl : counts.length ≤ 9223372036854775807) : PureF Try.prog 23 [.d (ints counts), I .i64 limit] (I .i64 (checkH counts limit)) := by
  refine pure_of fun H => ?_
  refine spec_of Try.func23 (by kernel_rfl) rfl (by simp) ?_
  dsimp only [Try.f23]
  by_cases h1 : limit < 1 ∨ 15 < limit
  · repeat' (first | (refine k_op1 ?_; (first | refine o_sv rfl (by decide) ?_ | (refine k_blt ?_; (refine o_val (v_lenm rfl) rfl rfl (by decide) ?_)))) | (refine k_ops ?_; (first | refine o_go (by first | exact .inl rfl | exact .inr ⟨_, _, _, rfl, rfl, rfl⟩) ?_ | refine o_nil ?_ | refine o_no rfl rfl (by decide) ?_ | refine o_casep rfl rfl (fun _ => ?_) (fun _ => ?_))) | (refine k_run ?_; (first | refine r_seq ?_ | refine r_region ?_ | refine r_true rfl ?_ | refine r_skip ?_ | refine r_block ?_ | refine r_inBlock ?_ | refine r_if rfl (fun _ => ?_) (fun _ => ?_))))
    all_goals try (exfalso; omega)
    all_goals refine r_ret Try.func23 _ (res_one rfl rfl) ⟨?_, rfl⟩
    all_goals rw [checkH, if_pos h1]
  by_cases h2 : 1024 < counts.length
  · repeat' (first | (refine k_op1 ?_; (first | refine o_sv rfl (by decide) ?_ | (refine k_blt ?_; (refine o_val (v_lenm rfl) rfl rfl (by decide) ?_)))) | (refine k_ops ?_; (first | refine o_go (by first | exact .inl rfl | exact .inr ⟨_, _, _, rfl, rfl, rfl⟩) ?_ | refine o_nil ?_ | refine o_no rfl rfl (by decide) ?_ | refine o_casep rfl rfl (fun _ => ?_) (fun _ => ?_))) | (refine k_run ?_; (first | refine r_seq ?_ | refine r_region ?_ | refine r_true rfl ?_ | refine r_skip ?_ | refine r_block ?_ | refine r_inBlock ?_ | refine r_if rfl (fun _ => ?_) (fun _ => ?_))))
    all_goals try (exfalso; omega)
    all_goals refine r_ret Try.func23 _ (res_one rfl rfl) ⟨?_, rfl⟩
    all_goals rw [checkH, if_neg h1, if_pos h2]
  repeat' (first | (refine k_op1 ?_; (first | refine o_sv rfl (by decide) ?_ | (refine k_blt ?_; (refine o_val (v_lenm rfl) rfl rfl (by decide) ?_)))) | (refine k_ops ?_; (first | refine o_go (by first | exact .inl rfl | exact .inr ⟨_, _, _, rfl, rfl, rfl⟩) ?_ | refine o_nil ?_ | refine o_no rfl rfl (by decide) ?_ | refine o_casep rfl rfl (fun _ => ?_) (fun _ => ?_))) | (refine k_run ?_; (first | refine r_seq ?_ | refine r_region ?_ | refine r_true rfl ?_ | refine r_skip ?_ | refine r_block ?_ | refine r_inBlock ?_ | refine r_if rfl (fun _ => ?_) (fun _ => ?_))))
  all_goals try (exfalso; omega)
  refine r_loop ?_
  refine r_less (r_inv (fun q : Nat × Nat => ⟨40, [(0, .d (ints counts)), (1, I .i64 limit), (5, I .i64 (q.2 : Nat)), (19, .d (ints counts)), (20, I .i64 counts.length), (21, I .i64 (q.1 : Nat))], [], H⟩) (fun q => q.1 ≤ counts.length ∧ q.2 ≤ q.1 ∧ chk (counts.drop q.1) q.2 = chk counts 0) (fun q => counts.length - q.1) ?_ (0, 0) ⟨by simp, by simp, rfl⟩) rfl rfl
  intro ⟨k, p⟩ ⟨hk, hp, he⟩ ih
  simp only at hk hp he ih ⊢
  by_cases hlt : k < counts.length
  · obtain ⟨x, hx⟩ : ∃ x, counts[k]? = some x := ⟨_, List.getElem?_eq_getElem hlt⟩
    have hd : counts.drop k = x :: counts.drop (k + 1) := by
      rw [List.getElem?_eq_some_iff] at hx
      rw [List.drop_eq_getElem_cons hlt, hx.2]
    rw [hd, chk] at he
    by_cases hr : x < 0 ∨ 4096 < x
    · rw [if_pos hr] at he
      repeat' (first | (refine k_op1 ?_; (first | refine o_sv rfl (by decide) ?_ | (refine k_load ?_; (refine o_val (v_loade rfl rfl rfl) rfl rfl (by decide) ?_)) | (refine k_index ?_; (refine o_val (v_index rfl (by omega) (idx hx) rfl) rfl rfl (by decide) ?_)) | (refine k_bin ?_; (refine o_val (v_add (wi64 (by omega) (by omega))) rfl rfl (by decide) ?_)))) | (refine k_ops ?_; (first | refine o_go (by first | exact .inl rfl | exact .inr ⟨_, _, _, rfl, rfl, rfl⟩) ?_ | refine o_nil ?_ | refine o_no rfl rfl (by decide) ?_ | refine o_casep rfl rfl (fun _ => ?_) (fun _ => ?_))) | (refine k_run ?_; (first | refine r_seq ?_ | refine r_region ?_ | refine r_true rfl ?_ | refine r_skip ?_ | refine r_block ?_ | refine r_inBlock ?_ | refine r_if rfl (fun _ => ?_) (fun _ => ?_) | refine r_exit rfl ?_)))
      all_goals try (exfalso; omega)
      all_goals refine r_ret Try.func23 _ (res_one rfl rfl) ⟨?_, rfl⟩
      all_goals rw [checkH, if_neg h1, if_neg h2, ← he]
    · rw [if_neg hr] at he
      repeat' (first | (refine k_op1 ?_; (first | refine o_sv rfl (by decide) ?_ | (refine k_load ?_; (refine o_val (v_loade rfl rfl rfl) rfl rfl (by decide) ?_)) | (refine k_index ?_; (refine o_val (v_index rfl (by omega) (idx hx) rfl) rfl rfl (by decide) ?_)) | (refine k_bin ?_; (refine o_val (v_add (wi64 (by omega) (by omega))) rfl rfl (by decide) ?_)))) | (refine k_ops ?_; (first | refine o_go (by first | exact .inl rfl | exact .inr ⟨_, _, _, rfl, rfl, rfl⟩) ?_ | refine o_nil ?_ | refine o_no rfl rfl (by decide) ?_ | refine o_casep rfl rfl (fun _ => ?_) (fun _ => ?_))) | (refine k_run ?_; (first | refine r_seq ?_ | refine r_region ?_ | refine r_true rfl ?_ | refine r_skip ?_ | refine r_block ?_ | refine r_inBlock ?_ | refine r_if rfl (fun _ => ?_) (fun _ => ?_) | refine r_exit rfl ?_)))
      all_goals try (exfalso; omega)
      all_goals first
        | exact r_less (ih (k + 1, p + 1) ⟨by simp only; omega, by simp only; omega, by rw [if_pos (by omega)] at he; exact he⟩ (by simp only; omega)) rfl rfl
        | exact r_less (ih (k + 1, p) ⟨by simp only; omega, by simp only; omega, by rw [if_neg (by omega)] at he; exact he⟩ (by simp only; omega)) rfl rfl
  · obtain rfl : k = counts.length := by omega
    rw [List.drop_length, chk] at he
    repeat' (first | (refine k_op1 ?_; (first | refine o_sv rfl (by decide) ?_ | (refine k_bin ?_; (refine o_val (v_shl1 (by omega) (by omega)) rfl rfl (by decide) ?_)))) | (refine k_ops ?_; (first | refine o_go (by first | exact .inl rfl | exact .inr ⟨_, _, _, rfl, rfl, rfl⟩) ?_ | refine o_nil ?_)) | (refine k_run ?_; (first | refine r_seq ?_ | refine r_region ?_ | refine r_skip ?_ | refine r_block ?_ | refine r_if rfl (fun _ => ?_) (fun _ => ?_) | refine r_exit rfl ?_)))
    all_goals try (exfalso; omega)
    all_goals refine r_ret Try.func23 _ (res_one rfl rfl) ⟨?_, rfl⟩
    all_goals rw [show checkH counts limit = if 2 ^ limit.toNat < p then 2 else 0 by rw [checkH, if_neg h1, if_neg h2, ← he]]
    all_goals first
      | (rw [if_pos (by omega)]; done)
      | (rw [if_neg (by omega)]; done)


theorem rcheck_s (counts : List Int) (limit : Int) (hl : counts.length ≤ 9223372036854775807) : PureF Try.prog 16 [.d (ints counts), I .i64 limit] (I .i64 (checkH counts limit)) := by
  refine pure_of fun H => ?_
  refine spec_of Try.func16 (by kernel_rfl) rfl (by simp) ?_
  dsimp only [Try.f16]
  by_cases h1 : limit < 1 ∨ 15 < limit
  · repeat' (first | (refine k_op1 ?_; (first | refine o_sv rfl (by decide) ?_ | (refine k_blt ?_; (refine o_val (v_lenm rfl) rfl rfl (by decide) ?_)))) | (refine k_ops ?_; (first | refine o_go (by first | exact .inl rfl | exact .inr ⟨_, _, _, rfl, rfl, rfl⟩) ?_ | refine o_nil ?_ | refine o_no rfl rfl (by decide) ?_ | refine o_casep rfl rfl (fun _ => ?_) (fun _ => ?_))) | (refine k_run ?_; (first | refine r_seq ?_ | refine r_region ?_ | refine r_true rfl ?_ | refine r_skip ?_ | refine r_block ?_ | refine r_if rfl (fun _ => ?_) (fun _ => ?_))))
    all_goals try (exfalso; omega)
    all_goals refine r_ret Try.func16 _ (res_one rfl rfl) ⟨?_, rfl⟩
    all_goals rw [checkH, if_pos h1]
  by_cases h2 : 1024 < counts.length
  · repeat' (first | (refine k_op1 ?_; (first | refine o_sv rfl (by decide) ?_ | (refine k_blt ?_; (refine o_val (v_lenm rfl) rfl rfl (by decide) ?_)))) | (refine k_ops ?_; (first | refine o_go (by first | exact .inl rfl | exact .inr ⟨_, _, _, rfl, rfl, rfl⟩) ?_ | refine o_nil ?_ | refine o_no rfl rfl (by decide) ?_ | refine o_casep rfl rfl (fun _ => ?_) (fun _ => ?_))) | (refine k_run ?_; (first | refine r_seq ?_ | refine r_region ?_ | refine r_true rfl ?_ | refine r_skip ?_ | refine r_block ?_ | refine r_if rfl (fun _ => ?_) (fun _ => ?_))))
    all_goals try (exfalso; omega)
    all_goals refine r_ret Try.func16 _ (res_one rfl rfl) ⟨?_, rfl⟩
    all_goals rw [checkH, if_neg h1, if_pos h2]
  repeat' (first | (refine k_op1 ?_; (first | refine o_sv rfl (by decide) ?_ | (refine k_blt ?_; (refine o_val (v_lenm rfl) rfl rfl (by decide) ?_)))) | (refine k_ops ?_; (first | refine o_go (by first | exact .inl rfl | exact .inr ⟨_, _, _, rfl, rfl, rfl⟩) ?_ | refine o_nil ?_ | refine o_no rfl rfl (by decide) ?_ | refine o_casep rfl rfl (fun _ => ?_) (fun _ => ?_))) | (refine k_run ?_; (first | refine r_seq ?_ | refine r_region ?_ | refine r_true rfl ?_ | refine r_skip ?_ | refine r_block ?_ | refine r_if rfl (fun _ => ?_) (fun _ => ?_))))
  all_goals try (exfalso; omega)
  refine r_loop ?_
  refine r_less (r_inv (fun q : Nat × Nat => ⟨39, [(0, .d (ints counts)), (1, I .i64 limit), (5, I .i64 (q.2 : Nat)), (17, .d (ints counts)), (18, I .i64 counts.length), (19, I .i64 (q.1 : Nat))], [], H⟩) (fun q => q.1 ≤ counts.length ∧ q.2 ≤ q.1 ∧ chk (counts.drop q.1) q.2 = chk counts 0) (fun q => counts.length - q.1) ?_ (0, 0) ⟨by simp, by simp, rfl⟩) rfl rfl
  intro ⟨k, p⟩ ⟨hk, hp, he⟩ ih
  simp only at hk hp he ih ⊢
  by_cases hlt : k < counts.length
  · obtain ⟨x, hx⟩ : ∃ x, counts[k]? = some x := ⟨_, List.getElem?_eq_getElem hlt⟩
    have hd : counts.drop k = x :: counts.drop (k + 1) := by
      rw [List.getElem?_eq_some_iff] at hx
      rw [List.drop_eq_getElem_cons hlt, hx.2]
    rw [hd, chk] at he
    by_cases hr : x < 0 ∨ 4096 < x
    · rw [if_pos hr] at he
      repeat' (first | (refine k_op1 ?_; (first | refine o_sv rfl (by decide) ?_ | (refine k_load ?_; (refine o_val (v_loade rfl rfl rfl) rfl rfl (by decide) ?_)) | (refine k_index ?_; (refine o_val (v_index rfl (by omega) (idx hx) rfl) rfl rfl (by decide) ?_)) | (refine k_bin ?_; (refine o_val (v_add (wi64 (by omega) (by omega))) rfl rfl (by decide) ?_)) | (refine k_conv ?_; (refine o_val (v_conv rfl rfl (wu64 (by omega) (by omega))) rfl rfl (by decide) ?_)))) | (refine k_ops ?_; (first | refine o_go (by first | exact .inl rfl | exact .inr ⟨_, _, _, rfl, rfl, rfl⟩) ?_ | refine o_nil ?_ | refine o_no rfl rfl (by decide) ?_ | refine o_casep rfl rfl (fun _ => ?_) (fun _ => ?_))) | (refine k_run ?_; (first | refine r_seq ?_ | refine r_region ?_ | refine r_true rfl ?_ | refine r_skip ?_ | refine r_block ?_ | refine r_inBlock ?_ | refine r_if rfl (fun _ => ?_) (fun _ => ?_) | refine r_exit rfl ?_)))
      all_goals try (exfalso; omega)
      all_goals refine r_ret Try.func16 _ (res_one rfl rfl) ⟨?_, rfl⟩
      all_goals rw [checkH, if_neg h1, if_neg h2, ← he]
    · rw [if_neg hr] at he
      repeat' (first | (refine k_op1 ?_; (first | refine o_sv rfl (by decide) ?_ | (refine k_load ?_; (refine o_val (v_loade rfl rfl rfl) rfl rfl (by decide) ?_)) | (refine k_index ?_; (refine o_val (v_index rfl (by omega) (idx hx) rfl) rfl rfl (by decide) ?_)) | (refine k_bin ?_; (refine o_val (v_add (wi64 (by omega) (by omega))) rfl rfl (by decide) ?_)) | (refine k_conv ?_; (refine o_val (v_conv rfl rfl (wu64 (by omega) (by omega))) rfl rfl (by decide) ?_)))) | (refine k_ops ?_; (first | refine o_go (by first | exact .inl rfl | exact .inr ⟨_, _, _, rfl, rfl, rfl⟩) ?_ | refine o_nil ?_ | refine o_no rfl rfl (by decide) ?_ | refine o_casep rfl rfl (fun _ => ?_) (fun _ => ?_))) | (refine k_run ?_; (first | refine r_seq ?_ | refine r_region ?_ | refine r_true rfl ?_ | refine r_skip ?_ | refine r_block ?_ | refine r_inBlock ?_ | refine r_if rfl (fun _ => ?_) (fun _ => ?_) | refine r_exit rfl ?_)))
      all_goals try (exfalso; omega)
      all_goals first
        | exact r_less (ih (k + 1, p + 1) ⟨by simp only; omega, by simp only; omega, by rw [if_pos (by omega)] at he; exact he⟩ (by simp only; omega)) rfl rfl
        | exact r_less (ih (k + 1, p) ⟨by simp only; omega, by simp only; omega, by rw [if_neg (by omega)] at he; exact he⟩ (by simp only; omega)) rfl rfl
  · obtain rfl : k = counts.length := by omega
    rw [List.drop_length, chk] at he
    repeat' (first | (refine k_op1 ?_; (first | refine o_sv rfl (by decide) ?_ | (refine k_bin ?_; (refine o_val (v_shl1 (by omega) (by omega)) rfl rfl (by decide) ?_)) | (refine k_conv ?_; (refine o_val (v_conv rfl rfl (wu64 (by omega) (by omega))) rfl rfl (by decide) ?_)))) | (refine k_ops ?_; (first | refine o_go (by first | exact .inl rfl | exact .inr ⟨_, _, _, rfl, rfl, rfl⟩) ?_ | refine o_nil ?_)) | (refine k_run ?_; (first | refine r_seq ?_ | refine r_region ?_ | refine r_skip ?_ | refine r_block ?_ | refine r_if rfl (fun _ => ?_) (fun _ => ?_) | refine r_exit rfl ?_)))
    all_goals try (exfalso; omega)
    all_goals refine r_ret Try.func16 _ (res_one rfl rfl) ⟨?_, rfl⟩
    all_goals rw [show checkH counts limit = if 2 ^ limit.toNat < p then 2 else 0 by rw [checkH, if_neg h1, if_neg h2, ← he]]
    all_goals first
      | (rw [if_pos (by omega)]; done)
      | (rw [if_neg (by omega)]; done)

end Go.Proofs.Ytlgdilkmcfpjjaa
namespace Go.Proofs.Ytlgdilkmcfpjjaa
open Go.Ab Go.Srt
set_option maxHeartbeats 20000000
set_option linter.unusedVariables false
set_option linter.unusedSimpArgs false
attribute [local irreducible] Run Ops Op1 Does Val Tr PureF Eff1 NF Rel

structure Item where
  weight : Int
  symbol : Int
  left : Int
  right : Int
def Item.cs (x : Item) : List D := [Dint x.weight, Dint x.symbol, Dint x.left, Dint x.right]
def items (l : List Item) : D := .slice (l.map Item.cs)
def WB : Int := 4611686018427387904
/-- an item whose weight is a moderate number -/
abbrev WItem := {x : Item // 0 ≤ x.weight ∧ x.weight ≤ 4611686018427387904}
def wcs (x : WItem) : List D := x.1.cs
def wle (x y : Item) : Bool := decide (x.weight ≤ y.weight)
def wle' (x y : WItem) : Bool := decide (x.1.weight ≤ y.1.weight)
theorem wle_ord : Srt.Ord wle' := ⟨fun a b c h1 h2 => by simp only [wle', decide_eq_true_eq] at *; omega, fun a b => by simp only [wle', decide_eq_true_eq]; omega⟩
theorem wle_ord' : Srt.Ord wle := ⟨fun a b c h1 h2 => by simp only [wle, decide_eq_true_eq] at *; omega, fun a b => by simp only [wle, decide_eq_true_eq]; omega⟩
def wcmp (x y : WItem) : Int := x.1.weight - y.1.weight
theorem wcmp_le (x y : WItem) : wle' x y = !decide (wcmp y x < 0) := by
  simp only [wle', wcmp]
  by_cases h : x.1.weight ≤ y.1.weight
  · have : ¬ y.1.weight - x.1.weight < 0 := by omega
    simp [h, this]
  · have : y.1.weight - x.1.weight < 0 := by omega
    simp [h, this]

theorem cmpI_s (x y : WItem) : Eff1 Try.prog 42 [.d (.agg (wcs x)), .d (.agg (wcs y))] [] [] (I .i64 (wcmp x y)) := by
  refine eff_of fun H hH => ?_
  refine spec_of Try.func42 (by kernel_rfl) rfl (by simp) ?_
  dsimp only [Try.f42]
  have hx := x.2
  have hy := y.2
  repeat' (first | (refine k_op1 ?_; (first | refine o_sv rfl (by decide) ?_ | (refine k_load ?_; (refine o_val (v_load rfl rfl rfl rfl) rfl rfl (by decide) ?_)) | (refine k_field ?_; (refine o_val (v_field rfl rfl) rfl rfl (by decide) ?_)) | (refine k_bin ?_; (refine o_val (v_sub (wi64 (by omega) (by omega))) rfl rfl (by decide) ?_)) | (refine k_box ?_; (refine o_does (d_box_d rfl rfl (by decide)) ?_)))) | (refine k_ops ?_; (first | refine o_go (by first | exact .inl rfl | exact .inr ⟨_, _, _, rfl, rfl, rfl⟩) ?_ | refine o_nil ?_)) | (refine k_run ?_; (first | refine r_seq ?_ | refine r_region ?_)))
  exact r_ret Try.func42 _ (res_one rfl rfl) ⟨rfl, rfl⟩
theorem cmpN_s (x y : WItem) : Eff1 Try.prog 44 [.d (.agg (wcs x)), .d (.agg (wcs y))] [] [] (I .i64 (wcmp x y)) := by
  refine eff_of fun H hH => ?_
  refine spec_of Try.func44 (by kernel_rfl) rfl (by simp) ?_
  dsimp only [Try.f44]
  have hx := x.2
  have hy := y.2
  repeat' (first | (refine k_op1 ?_; (first | refine o_sv rfl (by decide) ?_ | (refine k_load ?_; (refine o_val (v_load rfl rfl rfl rfl) rfl rfl (by decide) ?_)) | (refine k_field ?_; (refine o_val (v_field rfl rfl) rfl rfl (by decide) ?_)) | (refine k_bin ?_; (refine o_val (v_sub (wi64 (by omega) (by omega))) rfl rfl (by decide) ?_)) | (refine k_box ?_; (refine o_does (d_box_d rfl rfl (by decide)) ?_)))) | (refine k_ops ?_; (first | refine o_go (by first | exact .inl rfl | exact .inr ⟨_, _, _, rfl, rfl, rfl⟩) ?_ | refine o_nil ?_)) | (refine k_run ?_; (first | refine r_seq ?_ | refine r_region ?_)))
  exact r_ret Try.func44 _ (res_one rfl rfl) ⟨rfl, rfl⟩
theorem lift_items : ∀ l : List Item, (∀ x ∈ l, 0 ≤ x.weight ∧ x.weight ≤ 4611686018427387904) → ∃ q : List WItem, q.map Subtype.val = l
  | [], _ => ⟨[], rfl⟩
  | x :: l, h => by
    obtain ⟨q, rfl⟩ := lift_items l fun y hy => h y (by simp [hy])
    exact ⟨⟨x, h x (by simp)⟩ :: q, rfl⟩
theorem insR_map {α β : Type} {le : α → α → Bool} {le' : β → β → Bool} (f : α → β) (h : ∀ x y, le x y = le' (f x) (f y)) (y : α) : ∀ S : List α, (insR le y S).map f = insR le' (f y) (S.map f)
  | [] => rfl
  | s :: S => by
    rw [insR, List.map_cons, insR, ← h]
    split
    · rw [List.map_cons, insR_map f h y S]
    · rfl
theorem isort_map {α β : Type} {le : α → α → Bool} {le' : β → β → Bool} (f : α → β) (h : ∀ x y, le x y = le' (f x) (f y)) : ∀ q : List α, (isort le q).map f = isort le' (q.map f) := by
  intro q
  induction q using snoc_ind with
  | h0 => rfl
  | hs L x ih => rw [isort_snoc, insR_map f h, ih, List.map_append, List.map_cons, List.map_nil, isort_snoc]

/-- the present symbols -/
def lv : List Int → Nat → List Item
  | [], _ => []
  | n :: r, i => if 0 < n then ⟨n, i, 0, 0⟩ :: lv r (i + 1) else lv r (i + 1)
def leavesL (counts : List Int) : List Item := isort wle (lv counts 0)
theorem lv_mem : ∀ (l : List Int) (i : Nat) (x : Item), x ∈ lv l i → ∃ j, l[j]? = some x.weight ∧ x.symbol = ((i + j : Nat) : Int) ∧ 0 < x.weight ∧ x.left = 0 ∧ x.right = 0
  | [], i, x, h => by simp [lv] at h
  | n :: r, i, x, h => by
    rw [lv] at h
    by_cases hn : 0 < n
    · rw [if_pos hn, List.mem_cons] at h
      rcases h with rfl | h
      · exact ⟨0, by simp, by simp, hn, rfl, rfl⟩
      · obtain ⟨j, h1, h2, h3⟩ := lv_mem r (i + 1) x h
        exact ⟨j + 1, by simpa using h1, by rw [h2]; congr 1; omega, h3⟩
    · rw [if_neg hn] at h
      obtain ⟨j, h1, h2, h3⟩ := lv_mem r (i + 1) x h
      exact ⟨j + 1, by simpa using h1, by rw [h2]; congr 1; omega, h3⟩
theorem lv_len : ∀ (l : List Int) (i : Nat), (lv l i).length ≤ l.length
  | [], i => by simp [lv]
  | n :: r, i => by
    have := lv_len r (i + 1)
    rw [lv]; split <;> simp <;> omega
theorem drop_cons {α : Type} {l : List α} {k : Nat} {x : α} (h : l[k]? = some x) : l.drop k = x :: l.drop (k + 1) := by
  have hk := (List.getElem?_eq_some_iff.1 h)
  rw [List.drop_eq_getElem_cons hk.1, hk.2]
theorem leaves_s (counts : List Int) (hl : counts.length ≤ 1024) (hc : ∀ x ∈ counts, 0 ≤ x ∧ x ≤ 4096) : PureF Try.prog 24 [.d (ints counts)] (.d (items (leavesL counts))) := by
  refine pure_of fun H => ?_
  refine spec_of Try.func24 (by kernel_rfl) rfl (by simp) ?_
  dsimp only [Try.f24]
  have hmem := lv_mem counts 0
  have hlen := lv_len counts 0
  repeat' (first | (refine k_op1 ?_; (first | refine o_sv rfl (by decide) ?_ | (refine k_blt ?_; (refine o_val (v_lenm rfl) rfl rfl (by decide) ?_)))) | (refine k_ops ?_; (first | refine o_go (by first | exact .inl rfl | exact .inr ⟨_, _, _, rfl, rfl, rfl⟩) ?_ | refine o_nil ?_)) | (refine k_run ?_; (first | refine r_seq ?_ | refine r_region ?_ | refine r_block ?_)))
  refine r_slot_row 3 1000 48 4 rfl (by decide) rfl ?_
  refine r_loop ?_
  refine r_less (r_inv (fun q : Nat × List Item => ⟨25, [(0, .d (ints counts)), (3, .ref (0, 1000)), (6, .d (ints counts)), (7, I .i64 counts.length), (8, I .i64 (q.1 : Nat))], [(1000, .row 48 4 (q.2.map Item.cs))], H⟩) (fun q => q.1 ≤ counts.length ∧ q.2 ++ lv (counts.drop q.1) q.1 = lv counts 0) (fun q => counts.length - q.1) ?_ (0, []) ⟨by simp, rfl⟩) rfl rfl
  intro ⟨k, acc⟩ ⟨hk, he⟩ ih
  simp only at hk he ih ⊢
  have hla : acc.length ≤ 1024 := by have := congrArg List.length he; simp at this; omega
  by_cases hlt : k < counts.length
  · obtain ⟨x, hx⟩ : ∃ x, counts[k]? = some x := ⟨_, List.getElem?_eq_getElem hlt⟩
    rw [drop_cons hx, lv] at he
    repeat' (first | (refine k_op1 ?_; (first | refine o_sv rfl (by decide) ?_ | (refine k_load ?_; (refine o_val (v_loade rfl rfl rfl) rfl rfl (by decide) ?_)) | (refine k_index ?_; (refine o_val (v_index rfl (by omega) (idx hx) rfl) rfl rfl (by decide) ?_)) | (refine k_bin ?_; (refine o_val (v_add (wi64 (by omega) (by omega))) rfl rfl (by decide) ?_)) | (refine k_blt ?_; (refine o_app1 (g := Item.cs) rfl rfl ⟨x, (k : Nat), 0, 0⟩ rfl rfl rfl rfl rfl rfl rfl (by decide) (by omega) ?_)) | (refine k_build ?_; (refine o_build rfl rfl rfl rfl rfl rfl rfl (by decide) ?_)) | (refine k_lit ?_; (refine o_lit rfl rfl rfl rfl rfl rfl rfl rfl (by decide) ?_)))) | (refine k_ops ?_; (first | refine o_go (by first | exact .inl rfl | exact .inr ⟨_, _, _, rfl, rfl, rfl⟩) ?_ | refine o_nil ?_)) | (refine k_run ?_; (first | refine r_seq ?_ | refine r_region ?_ | refine r_skip ?_ | refine r_block ?_ | refine r_inBlock ?_ | refine r_if rfl (fun _ => ?_) (fun _ => ?_) | refine r_exit rfl ?_)))
    all_goals try (exfalso; omega)
    all_goals first
      | (refine r_ren 20 1000 rfl rfl ?_
         exact r_less (ih (k + 1, acc ++ [⟨x, (k : Nat), 0, 0⟩]) ⟨by simp only; omega, by rw [if_pos (by omega)] at he; rw [← he]; simp⟩ (by simp only; omega)) rfl rfl)
      | exact r_less (ih (k + 1, acc) ⟨by simp only; omega, by rw [if_neg (by omega)] at he; exact he⟩ (by simp only; omega)) rfl rfl
  · obtain rfl : k = counts.length := by omega
    rw [List.drop_length, lv, List.append_nil] at he
    obtain ⟨q, hq⟩ := lift_items acc fun x hx => by
      rw [he] at hx
      obtain ⟨j, h1, _, h3, _⟩ := hmem x hx
      have := hc _ (List.mem_of_getElem? h1)
      omega
    have hC := srt_it wcs (fun _ => rfl) (fun _ => rfl) 42 wle' wcmp wcmp_le cmpI_s wle_ord q (by have := congrArg List.length hq; simp at this; omega)
    rw [show acc.map Item.cs = q.map wcs by rw [← hq, List.map_map]; rfl]
    repeat' (first | (refine k_op1 ?_; (first | refine o_sv rfl (by decide) ?_ | (refine k_call ?_; (refine o_effr hC rfl rfl rfl (by decide) ?_)))) | (refine k_ops ?_; (first | refine o_go (by first | exact .inl rfl | exact .inr ⟨_, _, _, rfl, rfl, rfl⟩) ?_ | refine o_nil ?_)) | (refine k_run ?_; (first | refine r_seq ?_ | refine r_region ?_ | refine r_skip ?_ | refine r_block ?_ | refine r_if rfl (fun _ => ?_) (fun _ => ?_) | refine r_exit rfl ?_)))
    all_goals try (exfalso; omega)
    refine r_freeze 1000 rfl ?_
    refine r_ret Try.func24 _ (res_one rfl rfl) ⟨?_, rfl⟩
    rw [leavesL, ← he, ← hq, ← isort_map (le := wle') Subtype.val (fun x y => rfl), items, List.map_map]; rfl
end Go.Proofs.Ytlgdilkmcfpjjaa
namespace Go.Proofs.Ytlgdilkmcfpjjaa
open Go.Ab Go.Srt
set_option maxHeartbeats 20000000
set_option linter.unusedVariables false
set_option linter.unusedSimpArgs false
attribute [local irreducible] Run Ops Op1 Does Val Tr PureF Eff1 NF Rel

theorem clone_s (l : List Item) (hl : l ≠ []) (hlen : l.length ≤ 1000000) : ∀ H, Ab.Spec Try.prog 43 [.d (items l)] H (fun r H' => r = .new (.row 48 4 (l.map Item.cs)) ∧ H' = H) := by
  intro H
  refine spec_of Try.func43 (by kernel_rfl) rfl (by simp) ?_
  dsimp only [Try.f43]
  repeat' (first | (refine k_op1 ?_; (first | refine o_sv rfl (by decide) ?_ | (refine k_blt ?_; (refine o_apps (q := ([] : List Item)) (r := l) (g := Item.cs) rfl rfl rfl rfl rfl (fun _ => rfl) rfl rfl (by decide) (by simp; omega) ?_)) | (refine k_lit ?_; (refine o_lito rfl rfl rfl rfl rfl rfl rfl rfl rfl (by decide) ?_)) | refine o_val (v_eqnil rfl (by intro h; exact hl (List.map_eq_nil_iff.1 h))) rfl rfl (by decide) ?_)) | (refine k_ops ?_; (first | refine o_go (by first | exact .inl rfl | exact .inr ⟨_, _, _, rfl, rfl, rfl⟩) ?_ | refine o_nil ?_)) | (refine k_run ?_; (first | refine r_seq ?_ | refine r_region ?_ | refine r_false rfl ?_ | refine r_skip ?_)))
  refine r_ret Try.func43 _ (res_row rfl rfl rfl) ⟨?_, rfl⟩
  rfl
/-- the packages of a list -/
def pk : List Item → Nat → List Item
  | x :: y :: r, i => ⟨x.weight + y.weight, -1, (i : Nat), ((i + 1 : Nat) : Int)⟩ :: pk r (i + 2)
  | _, _ => []
def nextL (leaves before : List Item) : List Item := isort wle (leaves ++ pk before 0)
theorem pk_len : ∀ (n : Nat) (l : List Item) (i : Nat), l.length ≤ n → (pk l i).length = l.length / 2
  | _, [], i, h => by simp [pk]
  | _, [x], i, h => by simp [pk]
  | 0, x :: y :: r, i, h => by simp at h
  | n + 1, x :: y :: r, i, h => by
    simp only [List.length_cons] at h
    rw [pk, List.length_cons, pk_len n r (i + 2) (by omega)]; simp only [List.length_cons]; omega
theorem pk_mem : ∀ (n : Nat) (l : List Item) (i : Nat) (x : Item), l.length ≤ n → x ∈ pk l i → ∃ u ∈ l, ∃ v ∈ l, x.weight = u.weight + v.weight
  | _, [], i, x, h, hx => by simp [pk] at hx
  | _, [y], i, x, h, hx => by simp [pk] at hx
  | 0, x :: y :: r, i, _, h, _ => by simp at h
  | n + 1, a :: b :: r, i, x, h, hx => by
    rw [pk, List.mem_cons] at hx
    rcases hx with rfl | hx
    · exact ⟨a, by simp, b, by simp, rfl⟩
    · simp only [List.length_cons] at h
      obtain ⟨u, hu, v, hv, he⟩ := pk_mem n r (i + 2) x (by omega) hx
      exact ⟨u, by simp [hu], v, by simp [hv], he⟩
theorem pk_sym : ∀ (n : Nat) (l : List Item) (i : Nat) (x : Item), l.length ≤ n → x ∈ pk l i → x.symbol = -1
  | _, [], i, x, h, hx => by simp [pk] at hx
  | _, [y], i, x, h, hx => by simp [pk] at hx
  | 0, x :: y :: r, i, _, h, _ => by simp at h
  | n + 1, a :: b :: r, i, x, h, hx => by
    rw [pk, List.mem_cons] at hx
    rcases hx with rfl | hx
    · rfl
    · simp only [List.length_cons] at h
      exact pk_sym n r (i + 2) x (by omega) hx
theorem pk_short : ∀ (l : List Item) (i : Nat), l.length < 2 → pk l i = []
  | [], i, _ => by simp [pk]
  | [x], i, _ => by simp [pk]
  | x :: y :: r, i, h => by simp at h; omega
theorem next_s (leaves before : List Item) (hne : leaves ≠ []) (hl : leaves.length ≤ 100000) (hb : before.length ≤ 100000) (hw : ∀ x ∈ leaves, 0 ≤ x.weight ∧ x.weight ≤ 4611686018427387904) (hv : ∀ x ∈ before, 0 ≤ x.weight ∧ x.weight ≤ 2305843009213693952) :
    PureF Try.prog 25 [.d (items leaves), .d (items before)] (.d (items (nextL leaves before))) := by
  refine pure_of fun H => ?_
  refine spec_of Try.func25 (by kernel_rfl) rfl (by simp) ?_
  dsimp only [Try.f25]
  have hpl := pk_len before.length before 0 (Nat.le_refl _)
  repeat' (first | (refine k_op1 ?_; (first | refine o_sv rfl (by decide) ?_ | (refine k_call ?_; (refine o_calln rfl (clone_s _ hne (by omega) _) (by decide) rfl (fun r H' h => ⟨_, h.1, h.2, rfl, rfl, ?_⟩))))) | (refine k_ops ?_; (first | refine o_go (by first | exact .inl rfl | exact .inr ⟨_, _, _, rfl, rfl, rfl⟩) ?_ | refine o_nil ?_)) | (refine k_run ?_; (first | refine r_seq ?_ | refine r_region ?_ | refine r_block ?_)))
  refine r_ren 8 1000 rfl rfl ?_
  refine r_loop ?_
  refine r_less (r_inv (fun q : Nat × List Item => ⟨38, [(1, .d (items before)), (5, .ref (0, 1000)), (6, I .i64 (q.1 : Nat))], [(1000, .row 48 4 (q.2.map Item.cs))], H⟩) (fun q => q.1 ≤ before.length + 1 ∧ q.2 ++ pk (before.drop q.1) q.1 = leaves ++ pk before 0) (fun q => before.length + 1 - q.1) ?_ (0, leaves) ⟨by simp, rfl⟩) rfl rfl
  intro ⟨k, acc⟩ ⟨hk, he⟩ ih
  simp only at hk he ih ⊢
  have hla : acc.length ≤ 200000 := by have := congrArg List.length he; simp at this; omega
  by_cases hlt : k + 1 < before.length
  · obtain ⟨x, hx⟩ : ∃ x, before[k]? = some x := ⟨_, List.getElem?_eq_getElem (by omega)⟩
    obtain ⟨y, hy⟩ : ∃ y, before[k + 1]? = some y := ⟨_, List.getElem?_eq_getElem hlt⟩
    have hxw := hv x (List.mem_of_getElem? hx)
    have hyw := hv y (List.mem_of_getElem? hy)
    rw [drop_cons hx, drop_cons hy, pk] at he
    repeat' (first | (refine k_op1 ?_; (first | refine o_sv rfl (by decide) ?_ | (refine k_bin ?_; (refine o_val (v_add (wi64 (by omega) (by omega))) rfl rfl (by decide) ?_)) | (refine k_blt ?_; (refine o_val (v_lenm rfl) rfl rfl (by decide) ?_)))) | (refine k_ops ?_; (first | refine o_go (by first | exact .inl rfl | exact .inr ⟨_, _, _, rfl, rfl, rfl⟩) ?_ | refine o_nil ?_)) | (refine k_run ?_; (first | refine r_seq ?_ | refine r_region ?_ | refine r_skip ?_ | refine r_block ?_ | refine r_tr ?_ | refine r_inBlock ?_ | refine r_if rfl (fun _ => ?_) (fun _ => ?_) | refine r_exit rfl ?_)) | (refine k_tr ?_; (first | (refine kt_end ?_; refine t_end mix (by kernel_rfl) ?_) | refine t_sv rfl (by first | exact rfl | exact ⟨_, rfl, rfl, rfl⟩) (by decide) ?_ | (refine kt_load ?_; (refine t_val (v_loade rfl rfl rfl) (by first | exact rfl | exact ⟨_, rfl, rfl, rfl⟩) rfl rfl (by decide) ?_)) | (refine kt_field ?_; (refine t_val (v_fielde rfl rfl) (by first | exact rfl | exact ⟨_, rfl, rfl, rfl⟩) rfl rfl (by decide) ?_)) | (refine kt_index ?_; (first | refine t_val (v_index rfl (by omega) (idx hx) rfl) (by first | exact rfl | exact ⟨_, rfl, rfl, rfl⟩) rfl rfl (by decide) ?_ | refine t_val (v_index rfl (by omega) (idx hy) rfl) (by first | exact rfl | exact ⟨_, rfl, rfl, rfl⟩) rfl rfl (by decide) ?_)) | (refine kt_bin ?_; (refine t_val (v_add (wi64 (by omega) (by omega))) (by first | exact rfl | exact ⟨_, rfl, rfl, rfl⟩) rfl rfl (by decide) ?_)) | (refine kt_blt ?_; (refine t_app1 (g := Item.cs) (by first | exact rfl | exact ⟨_, rfl, rfl, rfl⟩) rfl rfl ⟨x.weight + y.weight, -1, (k : Nat), ((k + 1 : Nat) : Int)⟩ rfl rfl rfl rfl rfl rfl rfl (by decide) (by omega) ?_)) | (refine kt_build ?_; (refine t_build (by first | exact rfl | exact ⟨_, rfl, rfl, rfl⟩) rfl rfl rfl rfl rfl rfl rfl (by decide) ?_)) | (refine kt_lit ?_; (refine t_lit (by first | exact rfl | exact ⟨_, rfl, rfl, rfl⟩) rfl rfl rfl rfl rfl rfl rfl rfl (by decide) ?_)))))
    all_goals try (exfalso; omega)
    refine r_ren 34 1000 rfl rfl ?_
    exact r_less (ih (k + 2, acc ++ [⟨x.weight + y.weight, -1, (k : Nat), ((k + 1 : Nat) : Int)⟩]) ⟨by simp only; omega, by rw [← he]; simp⟩ (by simp only; omega)) rfl rfl
  · rw [pk_short _ _ (by rw [List.length_drop]; omega), List.append_nil] at he
    obtain ⟨q, hq⟩ := lift_items acc fun x hx => by
      rw [he, List.mem_append] at hx
      rcases hx with hx | hx
      · exact hw x hx
      · obtain ⟨u, hu, v, hv', hx⟩ := pk_mem before.length before 0 x (Nat.le_refl _) hx
        have := hv u hu
        have := hv v hv'
        omega
    have hC := srt_it wcs (fun _ => rfl) (fun _ => rfl) 44 wle' wcmp wcmp_le cmpN_s wle_ord q (by have := congrArg List.length hq; simp at this; omega)
    rw [show acc.map Item.cs = q.map wcs by rw [← hq, List.map_map]; rfl]
    repeat' (first | (refine k_op1 ?_; (first | refine o_sv rfl (by decide) ?_ | (refine k_bin ?_; (refine o_val (v_add (wi64 (by omega) (by omega))) rfl rfl (by decide) ?_)) | (refine k_blt ?_; (refine o_val (v_lenm rfl) rfl rfl (by decide) ?_)) | (refine k_call ?_; (refine o_effr hC rfl rfl rfl (by decide) ?_)))) | (refine k_ops ?_; (first | refine o_go (by first | exact .inl rfl | exact .inr ⟨_, _, _, rfl, rfl, rfl⟩) ?_ | refine o_nil ?_)) | (refine k_run ?_; (first | refine r_seq ?_ | refine r_region ?_ | refine r_skip ?_ | refine r_block ?_ | refine r_tr ?_ | refine r_if rfl (fun _ => ?_) (fun _ => ?_) | refine r_exit rfl ?_)) | (refine k_tr ?_; (refine t_sv rfl (by first | exact rfl | exact ⟨_, rfl, rfl, rfl⟩) (by decide) ?_)))
    all_goals try (exfalso; omega)
    refine r_freeze 1000 rfl ?_
    refine r_ret Try.func25 _ (res_one rfl rfl) ⟨?_, rfl⟩
    rw [nextL, ← he, ← hq, ← isort_map (le := wle') Subtype.val (fun x y => rfl), items, List.map_map]; rfl
end Go.Proofs.Ytlgdilkmcfpjjaa
namespace Go.Proofs.Ytlgdilkmcfpjjaa
open Go.Ab Go.Srt
set_option maxHeartbeats 20000000
set_option linter.unusedVariables false
set_option linter.unusedSimpArgs false
attribute [local irreducible] Run Ops Op1 Does Val Tr PureF Eff1 NF Rel

/-- the lists of the procedure -/
def lvl (leaves : List Item) : Nat → List Item
  | 0 => leaves
  | k + 1 => nextL leaves (lvl leaves k)
/-- the items of a list, counted: the lengths of the leaves, the number of packages -/
def walk : List Item → List Int → Nat → List Int × Nat
  | [], l, p => (l, p)
  | x :: r, l, p => if 0 ≤ x.symbol then walk r (l.set x.symbol.toNat (l.getD x.symbol.toNat 0 + 1)) p else walk r l (p + 1)
/-- from the list k down to the first -/
def back (leaves : List Item) : Nat → Nat → List Int → List Int
  | 0, t, l => (walk ((lvl leaves 0).take t) l 0).1
  | k + 1, t, l => back leaves k (2 * (walk ((lvl leaves (k + 1)).take t) l 0).2) (walk ((lvl leaves (k + 1)).take t) l 0).1
def ones (leaves : List Item) (l : List Int) : List Int := leaves.foldl (fun l x => l.set x.symbol.toNat 1) l
def huffL (counts : List Int) (limit : Int) : List Int × Int :=
  if checkH counts limit ≠ 0 then ([], checkH counts limit)
  else if (leavesL counts).length < 2 then (ones (leavesL counts) (List.replicate counts.length 0), 0)
  else (back (leavesL counts) (limit.toNat - 1) (2 * (leavesL counts).length - 2) (List.replicate counts.length 0), 0)

theorem nextL_len (leaves before : List Item) : (nextL leaves before).length = leaves.length + before.length / 2 := by
  rw [nextL, isort_length, List.length_append, pk_len before.length before 0 (Nat.le_refl _)]
theorem lvl_len_le (leaves : List Item) : ∀ k, (lvl leaves k).length ≤ 2 * leaves.length
  | 0 => by rw [lvl]; omega
  | k + 1 => by have := lvl_len_le leaves k; rw [lvl, nextL_len]; omega
theorem lvl_len_ge (leaves : List Item) : ∀ k m, leaves.length ≤ m * 2 ^ k → 2 * leaves.length ≤ (lvl leaves k).length + m
  | 0, m, h => by rw [lvl]; omega
  | k + 1, m, h => by
    have := lvl_len_ge leaves k (2 * m) (by rw [Nat.pow_succ] at h; rw [Nat.mul_comm 2 m, Nat.mul_assoc, Nat.mul_comm 2]; exact h)
    rw [lvl, nextL_len]; omega
/-- what an item of a list is -/
theorem lvl_mem (leaves : List Item) (N : Nat) (B : Int) (hB : 0 ≤ B) (hl : ∀ x ∈ leaves, 0 ≤ x.weight ∧ x.weight ≤ B ∧ 0 ≤ x.symbol ∧ x.symbol < N) :
    ∀ k, ∀ x ∈ lvl leaves k, (0 ≤ x.weight ∧ x.weight ≤ B * 2 ^ k) ∧ (x.symbol = -1 ∨ (0 ≤ x.symbol ∧ x.symbol < N))
  | 0, x, hx => by obtain ⟨h1, h2, h3, h4⟩ := hl x hx; exact ⟨⟨h1, by simpa using h2⟩, .inr ⟨h3, h4⟩⟩
  | k + 1, x, hx => by
    have ih := lvl_mem leaves N B hB hl k
    rw [lvl, nextL] at hx
    have hx := (isort_perm (le := wle) _).mem_iff.1 hx
    rw [List.mem_append] at hx
    have hp : B * 2 ^ (k + 1) = B * 2 ^ k + B * 2 ^ k := by rw [Int.pow_succ, ← Int.mul_assoc]; omega
    rcases hx with hx | hx
    · obtain ⟨h1, h2, h3, h4⟩ := hl x hx
      refine ⟨⟨h1, ?_⟩, .inr ⟨h3, h4⟩⟩
      have : B * 1 ≤ B * 2 ^ (k + 1) := Int.mul_le_mul_of_nonneg_left (by have : (0 : Int) < 2 ^ (k + 1) := Int.pow_pos (by decide); omega) hB
      omega
    · obtain ⟨u, hu, v, hv, he⟩ := pk_mem (lvl leaves k).length (lvl leaves k) 0 x (Nat.le_refl _) hx
      have h1 := (ih u hu).1
      have h2 := (ih v hv).1
      refine ⟨by omega, .inl ?_⟩
      exact pk_sym (lvl leaves k).length (lvl leaves k) 0 x (Nat.le_refl _) hx
theorem walk_len : ∀ (r : List Item) (l : List Int) (p : Nat), (walk r l p).1.length = l.length
  | [], l, p => rfl
  | x :: r, l, p => by
    rw [walk]; split
    · rw [walk_len, List.length_set]
    · rw [walk_len]
/-- the packages among some items -/
def pks (r : List Item) : Nat := (r.filter fun x => decide (x.symbol < 0)).length
theorem walk_pks : ∀ (r : List Item) (l : List Int) (p : Nat), (walk r l p).2 = p + pks r
  | [], l, p => rfl
  | x :: r, l, p => by
    rw [walk, pks, List.filter_cons]
    split
    · rw [walk_pks, if_neg (by simp; omega)]; rfl
    · rw [walk_pks, if_pos (by simp; omega), List.length_cons, pks]; omega
theorem pks_take_le (r : List Item) (t : Nat) : pks (r.take t) ≤ pks r := by
  have : r = r.take t ++ r.drop t := (List.take_append_drop t r).symm
  rw [pks, pks]
  conv => rhs; rw [this, List.filter_append, List.length_append]
  omega
theorem pks_perm {r s : List Item} (h : r.Perm s) : pks r = pks s := (h.filter _).length_eq
theorem pks_next (leaves before : List Item) (hl : ∀ x ∈ leaves, 0 ≤ x.symbol) : pks (nextL leaves before) = before.length / 2 := by
  rw [nextL, pks_perm (isort_perm _), pks, List.filter_append, List.length_append]
  have h1 : leaves.filter (fun x => decide (x.symbol < 0)) = [] := by
    rw [List.filter_eq_nil_iff]; intro x hx; have := hl x hx; simp; omega
  have h2 : (pk before 0).filter (fun x => decide (x.symbol < 0)) = pk before 0 := by
    rw [List.filter_eq_self]; intro x hx
    rw [pk_sym before.length before 0 x (Nat.le_refl _) hx]; rfl
  rw [h1, h2, pk_len before.length before 0 (Nat.le_refl _)]; simp
end Go.Proofs.Ytlgdilkmcfpjjaa
namespace Go.Proofs.Ytlgdilkmcfpjjaa
open Go.Ab Go.Srt
set_option maxHeartbeats 20000000
set_option linter.unusedVariables false
set_option linter.unusedSimpArgs false
attribute [local irreducible] Run Ops Op1 Does Val Tr PureF Eff1 NF Rel

theorem chk_spec : ∀ (l : List Int) (p q i : Nat), chk l p = some q → (∀ x ∈ l, 0 ≤ x ∧ x ≤ 4096) ∧ q = p + (lv l i).length
  | [], p, q, i, h => by simp [chk] at h; subst h; simp [lv]
  | x :: r, p, q, i, h => by
    rw [chk] at h
    by_cases hr : x < 0 ∨ 4096 < x
    · rw [if_pos hr] at h; cases h
    · rw [if_neg hr] at h
      obtain ⟨h1, h2⟩ := chk_spec r _ q (i + 1) h
      refine ⟨fun y hy => ?_, ?_⟩
      · rw [List.mem_cons] at hy
        rcases hy with rfl | hy
        · omega
        · exact h1 y hy
      · rw [lv]
        by_cases h0 : 0 < x
        · rw [if_pos h0] at h2 ⊢; rw [h2, List.length_cons]; omega
        · rw [if_neg h0] at h2 ⊢; exact h2
/-- what sound arguments are -/
theorem checkH_ok {counts : List Int} {limit : Int} (h : checkH counts limit = 0) : 1 ≤ limit ∧ limit ≤ 15 ∧ counts.length ≤ 1024 ∧ (∀ x ∈ counts, 0 ≤ x ∧ x ≤ 4096) ∧ (leavesL counts).length ≤ 2 ^ limit.toNat := by
  rw [checkH] at h
  by_cases h1 : limit < 1 ∨ 15 < limit
  · rw [if_pos h1] at h; cases h
  rw [if_neg h1] at h
  by_cases h2 : 1024 < counts.length
  · rw [if_pos h2] at h; cases h
  rw [if_neg h2] at h
  cases hc : chk counts 0 with
  | none => rw [hc] at h; cases h
  | some q =>
    rw [hc] at h
    obtain ⟨h3, h4⟩ := chk_spec counts 0 q 0 hc
    simp only at h
    by_cases h5 : 2 ^ limit.toNat < q
    · rw [if_pos h5] at h; cases h
    · exact ⟨by omega, by omega, by omega, h3, by rw [leavesL, isort_length]; omega⟩
theorem leavesL_mem {counts : List Int} (hc : ∀ x ∈ counts, 0 ≤ x ∧ x ≤ 4096) : ∀ x ∈ leavesL counts, 0 ≤ x.weight ∧ x.weight ≤ 4096 ∧ 0 ≤ x.symbol ∧ x.symbol < counts.length := by
  intro x hx
  rw [leavesL] at hx
  have hx := (isort_perm (le := wle) _).mem_iff.1 hx
  obtain ⟨j, h1, h2, h3, _⟩ := lv_mem counts 0 x hx
  have h4 := hc _ (List.mem_of_getElem? h1)
  have h5 := (List.getElem?_eq_some_iff.1 h1).1
  omega
theorem back_len (leaves : List Item) : ∀ (k t : Nat) (l : List Int), (back leaves k t l).length = l.length
  | 0, t, l => by rw [back, walk_len]
  | k + 1, t, l => by rw [back, back_len, walk_len]
theorem ones_len : ∀ (r : List Item) (l : List Int), (ones r l).length = l.length
  | [], l => rfl
  | x :: r, l => by rw [ones, List.foldl_cons]; have := ones_len r (l.set x.symbol.toNat 1); rw [ones] at this; rw [this, List.length_set]

theorem lengths_s (counts : List Int) (limit : Int) (hl : counts.length ≤ 9223372036854775807) : PureF Try.prog 12 [.d (ints counts), I .i64 limit] (.tup [.d (ints (huffL counts limit).1), I .i64 (huffL counts limit).2]) := by
  refine pure_of fun H => ?_
  refine spec_of Try.func12 (by kernel_rfl) rfl (by simp) ?_
  dsimp only [Try.f12]
  by_cases hck : checkH counts limit ≠ 0
  · have e : huffL counts limit = ([], checkH counts limit) := by rw [huffL, if_pos hck]
    repeat' (first | (refine k_op1 ?_; (first | refine o_sv rfl (by decide) ?_ | (refine k_blt ?_; (refine o_val (v_lenm rfl) rfl rfl (by decide) ?_)) | (refine k_call ?_; (refine o_fn (check_s counts limit hl) rfl (by decide) ?_)))) | (refine k_ops ?_; (first | refine o_go (by first | exact .inl rfl | exact .inr ⟨_, _, _, rfl, rfl, rfl⟩) ?_ | refine o_nil ?_)) | (refine k_run ?_; (first | refine r_seq ?_ | refine r_region ?_ | refine r_skip ?_ | refine r_ifn rfl (fun _ => ?_) (fun _ => ?_))))
    all_goals try (exfalso; omega)
    refine r_nil 4 rfl ?_
    refine r_ret Try.func12 _ (res_two rfl rfl rfl) ⟨?_, rfl⟩
    rw [e]; rfl
  have hck0 : checkH counts limit = 0 := by omega
  obtain ⟨hl1, hl2, hcl, hc, hn⟩ := checkH_ok hck0
  have hlm := leavesL_mem hc
  have hll : (leavesL counts).length ≤ 1024 := by rw [leavesL, isort_length]; have := lv_len counts 0; omega
  obtain ⟨leaves, hL⟩ : ∃ leaves, leavesL counts = leaves := ⟨_, rfl⟩
  have hle := leaves_s counts hcl hc
  have e : huffL counts limit = if leaves.length < 2 then (ones leaves (List.replicate counts.length 0), 0) else (back leaves (limit.toNat - 1) (2 * leaves.length - 2) (List.replicate counts.length 0), 0) := by rw [huffL, if_neg hck, hL]
  rw [hL] at hle hlm hll hn
  have hmk : List.replicate ((counts.length : Nat) : Int).toNat [Dint 0] = (List.replicate counts.length 0).map fun x => [Dint x] := by simp
  by_cases hn2 : leaves.length < 2
  · rw [if_pos hn2] at e
    repeat' (first | (refine k_op1 ?_; (first | refine o_sv rfl (by decide) ?_ | (refine k_bin ?_; (refine o_val (v_sub (wi64 (by omega) (by omega))) rfl rfl (by decide) ?_)) | (refine k_blt ?_; (refine o_val (v_lenm rfl) rfl rfl (by decide) ?_)) | (refine k_call ?_; (first | refine o_fn (check_s counts limit hl) rfl (by decide) ?_ | refine o_fn hle rfl (by decide) ?_)) | (refine k_lit ?_; (refine o_lit rfl rfl rfl rfl rfl rfl rfl rfl (by decide) ?_)) | (refine k_make ?_; (refine o_make (xs := (List.replicate counts.length (0 : Int)).map fun x => [Dint x]) rfl rfl (by omega) (by omega) rfl rfl rfl (by decide) (by simp) ?_)))) | (refine k_ops ?_; (first | refine o_go (by first | exact .inl rfl | exact .inr ⟨_, _, _, rfl, rfl, rfl⟩) ?_ | refine o_nil ?_)) | (refine k_run ?_; (first | refine r_seq ?_ | refine r_region ?_ | refine r_skip ?_ | refine r_block ?_ | refine r_if rfl (fun _ => ?_) (fun _ => ?_) | refine r_ifn rfl (fun _ => ?_) (fun _ => ?_))))
    all_goals try (exfalso; omega)
    refine r_loop ?_
    refine r_less (r_inv (fun q : Nat × List Int => ⟨99, [(7, .ref (0, 25)), (31, .d (items leaves)), (32, I .i64 leaves.length), (33, I .i64 (q.1 : Nat))], [(25, .row 3 1 (q.2.map fun x => [Dint x]))], H⟩)
      (fun q => q.1 ≤ leaves.length ∧ q.2.length = counts.length ∧ ones (leaves.drop q.1) q.2 = ones leaves (List.replicate counts.length 0)) (fun q => leaves.length - q.1) ?_ (0, List.replicate counts.length 0) ⟨by simp, by simp, rfl⟩) rfl rfl
    intro ⟨k, ln⟩ ⟨hk, hln, he⟩ ih
    simp only at hk hln he ih ⊢
    by_cases hlt : k < leaves.length
    · obtain ⟨x, hx⟩ : ∃ x, leaves[k]? = some x := ⟨_, List.getElem?_eq_getElem hlt⟩
      have hxm := hlm x (List.mem_of_getElem? hx)
      obtain ⟨v, hv⟩ : ∃ v, ln[x.symbol.toNat]? = some v := ⟨_, List.getElem?_eq_getElem (by omega)⟩
      rw [drop_cons hx, ones, List.foldl_cons] at he
      repeat' (first | (refine k_op1 ?_; (first | refine o_sv rfl (by decide) ?_ | (refine k_load ?_; (first | refine o_val (v_load rfl rfl rfl rfl) rfl rfl (by decide) ?_ | refine o_val (v_loadea rfl rfl) rfl rfl (by decide) ?_)) | (refine k_field ?_; (refine o_val (v_field rfl rfl) rfl rfl (by decide) ?_)) | (refine k_index ?_; (first | refine o_val (v_index rfl (by omega) (idx hx) rfl) rfl rfl (by decide) ?_ | refine o_val (v_rindex rfl (by omega) (by simp; omega) rfl) rfl rfl (by decide) ?_)) | (refine k_bin ?_; (refine o_val (v_add (wi64 (by omega) (by omega))) rfl rfl (by decide) ?_)) | (refine k_store ?_; (first | refine o_rstorem (1 : Int) rfl rfl rfl rfl hv rfl rfl rfl rfl ?_ | refine o_store0 rfl rfl rfl rfl rfl rfl ?_)) | (refine k_alloc ?_; (refine o_does (d_alloc rfl rfl (by decide)) ?_)))) | (refine k_ops ?_; (first | refine o_go (by first | exact .inl rfl | exact .inr ⟨_, _, _, rfl, rfl, rfl⟩) ?_ | refine o_nil ?_)) | (refine k_run ?_; (first | refine r_seq ?_ | refine r_region ?_ | refine r_skip ?_ | refine r_block ?_ | refine r_inBlock ?_ | refine r_if rfl (fun _ => ?_) (fun _ => ?_) | refine r_exit rfl ?_)))
      all_goals try (exfalso; omega)
      exact r_less (ih (k + 1, ln.set x.symbol.toNat 1) ⟨by simp only; omega, by simp only [List.length_set]; exact hln, he⟩ (by simp only; omega)) rfl rfl
    · obtain rfl : k = leaves.length := by omega
      rw [List.drop_length, ones, List.foldl_nil] at he
      repeat' (first | (refine k_op1 ?_; (refine o_sv rfl (by decide) ?_)) | (refine k_ops ?_; (first | refine o_go (by first | exact .inl rfl | exact .inr ⟨_, _, _, rfl, rfl, rfl⟩) ?_ | refine o_nil ?_)) | (refine k_run ?_; (first | refine r_seq ?_ | refine r_region ?_ | refine r_skip ?_ | refine r_block ?_ | refine r_if rfl (fun _ => ?_) (fun _ => ?_) | refine r_exit rfl ?_)))
      all_goals try (exfalso; omega)
      refine r_freeze 25 rfl ?_
      refine r_ret Try.func12 _ (res_two rfl rfl rfl) ⟨?_, rfl⟩
      rw [e, ← he]; rfl
  rw [if_neg hn2] at e
  have hne : leaves ≠ [] := by intro h; subst h; simp at hn2
  have hlv := lvl_mem leaves counts.length 4096 (by omega) hlm
  have hpow : ∀ k : Nat, k ≤ 15 → (4096 : Int) * 2 ^ k ≤ 134217728 := fun k hk => by
    have : (2 : Nat) ^ k ≤ 2 ^ 15 := Nat.pow_le_pow_right (by omega) hk
    have h2 : ((2 : Int) ^ k) = ((2 ^ k : Nat) : Int) := by simp
    rw [h2]; omega
  repeat' (first | (refine k_op1 ?_; (first | refine o_sv rfl (by decide) ?_ | (refine k_bin ?_; (refine o_val (v_sub (wi64 (by omega) (by omega))) rfl rfl (by decide) ?_)) | (refine k_blt ?_; (refine o_val (v_lenm rfl) rfl rfl (by decide) ?_)) | (refine k_call ?_; (first | refine o_fn (check_s counts limit hl) rfl (by decide) ?_ | refine o_fn hle rfl (by decide) ?_)) | (refine k_lit ?_; (refine o_lito rfl rfl rfl rfl rfl rfl rfl rfl rfl (by decide) ?_)) | (refine k_make ?_; (refine o_make (xs := (List.replicate counts.length (0 : Int)).map fun x => [Dint x]) rfl rfl (by omega) (by omega) rfl rfl rfl (by decide) (by simp) ?_)))) | (refine k_ops ?_; (first | refine o_go (by first | exact .inl rfl | exact .inr ⟨_, _, _, rfl, rfl, rfl⟩) ?_ | refine o_nil ?_)) | (refine k_run ?_; (first | refine r_seq ?_ | refine r_region ?_ | refine r_skip ?_ | refine r_block ?_ | refine r_if rfl (fun _ => ?_) (fun _ => ?_) | refine r_ifn rfl (fun _ => ?_) (fun _ => ?_))))
  all_goals try (exfalso; omega)
  have hpl : ∀ x ∈ leaves, 0 ≤ x.weight ∧ x.weight ≤ 4611686018427387904 := fun x hx => by have := hlm x hx; omega
  refine r_loop ?_
  refine r_less (r_inv (fun j : Nat => ⟨99, [(1, I .i64 limit), (7, .ref (0, 25)), (8, .d (items leaves)), (11, .ref (0, 44)), (46, I .i64 (limit - 1)), (47, I .i64 (j : Nat))], [(25, .row 3 1 ((List.replicate counts.length (0 : Int)).map fun x => [Dint x])), (44, .row 45 1 ((List.range (j + 1)).map fun i => [items (lvl leaves i)]))], H⟩)
    (fun j => (j : Int) ≤ limit - 1) (fun j => (limit - 1 - j).toNat) ?_ 0 (by omega)) rfl rfl
  intro j hj ih
  have hlr : (List.range (j + 1)).length = j + 1 := List.length_range
  have hbl := lvl_len_le leaves j
  by_cases hlt : (j : Int) < limit - 1
  · have hrj : (List.range (j + 1))[(((List.range (j + 1)).length : Int) - 1).toNat]? = some j := by
      rw [hlr, List.getElem?_range (by omega)]; congr 1; omega
    have hp := hpow j (by omega)
    have hnx := next_s leaves (lvl leaves j) hne (by omega) (by omega) hpl (fun x hx => by have := (hlv j x hx).1; omega)
    repeat' (first | (refine k_op1 ?_; (first | refine o_sv rfl (by decide) ?_ | (refine k_load ?_; (refine o_val (v_rloadm hrj rfl rfl rfl) rfl rfl (by decide) ?_)) | (refine k_index ?_; (refine o_val (v_rindex rfl (by omega) (by rw [List.length_map]; omega) rfl) rfl rfl (by decide) ?_)) | (refine k_bin ?_; (first | refine o_val (v_add (wi64 (by omega) (by omega))) rfl rfl (by decide) ?_ | refine o_val (v_sub (wi64 (by omega) (by omega))) rfl rfl (by decide) ?_ | refine o_val (v_mul (wi64 (by omega) (by omega))) rfl rfl (by decide) ?_)) | (refine k_blt ?_; (first | refine o_app1 (g := fun i => [items (lvl leaves i)]) rfl rfl (j + 1) rfl rfl rfl rfl rfl rfl rfl (by decide) (by omega) ?_ | refine o_val (v_lenm rfl) rfl rfl (by decide) ?_ | refine o_val (v_lenrm rfl) rfl rfl (by decide) ?_)) | (refine k_call ?_; (refine o_fn hnx rfl (by decide) ?_)) | (refine k_lit ?_; (refine o_lit rfl rfl rfl rfl rfl rfl rfl rfl (by decide) ?_)))) | (refine k_ops ?_; (first | refine o_go (by first | exact .inl rfl | exact .inr ⟨_, _, _, rfl, rfl, rfl⟩) ?_ | refine o_nil ?_)) | (refine k_run ?_; (first | refine r_seq ?_ | refine r_region ?_ | refine r_skip ?_ | refine r_block ?_ | refine r_inBlock ?_ | refine r_if rfl (fun _ => ?_) (fun _ => ?_) | refine r_exit rfl ?_)))
    all_goals try (exfalso; omega)
    refine r_ren 59 44 rfl rfl ?_
    exact r_less (ih (j + 1) (by omega) (by omega)) rfl (by rw [List.range_succ (n := j + 1)]; rfl)
  have hjl : j = limit.toNat - 1 := by omega
  have hlr2 : ((List.range (j + 1)).length : Int) = limit := by omega
  repeat' (first | (refine k_op1 ?_; (first | refine o_sv rfl (by decide) ?_ | (refine k_bin ?_; (first | refine o_val (v_sub (wi64 (by omega) (by omega))) rfl rfl (by decide) ?_ | refine o_val (v_mul (wi64 (by omega) (by omega))) rfl rfl (by decide) ?_)) | (refine k_blt ?_; (first | refine o_val (v_lenm rfl) rfl rfl (by decide) ?_ | refine o_val (v_lenrm rfl) rfl rfl (by decide) ?_)))) | (refine k_ops ?_; (first | refine o_go (by first | exact .inl rfl | exact .inr ⟨_, _, _, rfl, rfl, rfl⟩) ?_ | refine o_nil ?_)) | (refine k_run ?_; (first | refine r_seq ?_ | refine r_region ?_ | refine r_skip ?_ | refine r_block ?_ | refine r_if rfl (fun _ => ?_) (fun _ => ?_) | refine r_exit rfl ?_)))
  all_goals try (exfalso; omega)
  refine r_freeze 44 rfl ?_
  refine r_loop ?_
  have hge := lvl_len_ge leaves j 2 (by
    have h2 : limit.toNat = j + 1 := by omega
    rw [h2, Nat.pow_succ] at hn
    rw [Nat.mul_comm]; exact hn)
  refine r_less (r_inv (fun q : Int × Int × List Int => ⟨99, [(7, .ref (0, 25)), (11, .d (.slice ((List.range (j + 1)).map fun i => [items (lvl leaves i)]))), (12, I .i64 q.2.1), (13, I .i64 q.1)], [(25, .row 3 1 (q.2.2.map fun x => [Dint x]))], H⟩)
    (fun q => -1 ≤ q.1 ∧ q.1 ≤ j ∧ 0 ≤ q.2.1 ∧ q.2.2.length = counts.length ∧ (∀ v ∈ q.2.2, 0 ≤ v ∧ v ≤ (j - q.1) * 4096) ∧ (q.1 = -1 → q.2.2 = back leaves j (2 * leaves.length - 2) (List.replicate counts.length 0)) ∧ (0 ≤ q.1 → q.2.1 ≤ (lvl leaves q.1.toNat).length ∧ back leaves q.1.toNat q.2.1.toNat q.2.2 = back leaves j (2 * leaves.length - 2) (List.replicate counts.length 0)))
    (fun q => (q.1 + 1).toNat) ?_ (((List.range (j + 1)).length : Int) - 1, 2 * (leaves.length : Int) - 2, List.replicate counts.length 0)
    ⟨by simp only; omega, by simp only; omega, by simp only; omega, by simp, fun v hv => by simp only [List.mem_replicate] at hv; simp only; omega, fun h => by simp only at h; omega, fun _ => by
      have e1 : ((((List.range (j + 1)).length : Int) - 1).toNat) = j := by omega
      have e2 : (2 * (leaves.length : Int) - 2).toNat = 2 * leaves.length - 2 := by omega
      simp only [e1, e2]; exact ⟨by omega, trivial⟩⟩) rfl rfl
  intro ⟨k, tk, ln⟩ ⟨h1, h2, h3, h4, h5, h6, h7⟩ ih2
  simp only at h1 h2 h3 h4 h5 h6 h7 ih2 ⊢
  by_cases hk : k < 0
  · have hk1 : k = -1 := by omega
    repeat' (first | (refine k_op1 ?_; (refine o_sv rfl (by decide) ?_)) | (refine k_ops ?_; (first | refine o_go (by first | exact .inl rfl | exact .inr ⟨_, _, _, rfl, rfl, rfl⟩) ?_ | refine o_nil ?_)) | (refine k_run ?_; (first | refine r_seq ?_ | refine r_region ?_ | refine r_skip ?_ | refine r_block ?_ | refine r_if rfl (fun _ => ?_) (fun _ => ?_) | refine r_exit rfl ?_)))
    all_goals try (exfalso; omega)
    refine r_freeze 25 rfl ?_
    refine r_ret Try.func12 _ (res_two rfl rfl rfl) ⟨?_, rfl⟩
    rw [e, h6 hk1, hjl]; rfl
  obtain ⟨kn, rfl⟩ : ∃ kn : Nat, k = kn := ⟨k.toNat, by omega⟩
  obtain ⟨h7, h8⟩ := h7 (by omega)
  rw [Int.toNat_natCast] at h7 h8
  have hrk : (List.range (j + 1))[kn]? = some kn := List.getElem?_range (by omega)
  have hbk := lvl_len_le leaves kn
  repeat' (first | (refine k_op1 ?_; (first | refine o_sv rfl (by decide) ?_ | (refine k_load ?_; (refine o_val (v_loade rfl rfl rfl) rfl rfl (by decide) ?_)) | (refine k_index ?_; (refine o_val (v_index rfl (by omega) (idx hrk) rfl) rfl rfl (by decide) ?_)) | (refine k_slice ?_; (refine o_val (v_slicetm (g := Item.cs) rfl (by omega) (by omega) (fun _ => rfl)) rfl rfl (by decide) ?_)) | (refine k_blt ?_; (refine o_val (v_lenm rfl) rfl rfl (by decide) ?_)))) | (refine k_ops ?_; (first | refine o_go (by first | exact .inl rfl | exact .inr ⟨_, _, _, rfl, rfl, rfl⟩) ?_ | refine o_nil ?_)) | (refine k_run ?_; (first | refine r_seq ?_ | refine r_region ?_ | refine r_true rfl ?_ | refine r_skip ?_ | refine r_block ?_)))
  all_goals try (exfalso; omega)
  obtain ⟨T, hT⟩ : ∃ T, (lvl leaves kn).take tk.toNat = T := ⟨_, rfl⟩
  have hTl : T.length ≤ 2048 := by rw [← hT, List.length_take]; omega
  have hTm : ∀ x ∈ T, x ∈ lvl leaves kn := fun x hx => by rw [← hT] at hx; exact List.mem_of_mem_take hx
  rw [hT]
  refine r_loop ?_
  refine r_less (r_inv (fun q : Nat × Nat × List Int => ⟨99, [(7, .ref (0, 25)), (11, .d (.slice ((List.range (j + 1)).map fun i => [items (lvl leaves i)]))), (13, I .i64 (kn : Nat)), (14, I .i64 (q.2.1 : Nat)), (77, .d (.slice (T.map Item.cs))), (78, I .i64 (T.length : Nat)), (79, I .i64 (q.1 : Nat))], [(25, .row 3 1 (q.2.2.map fun x => [Dint x]))], H⟩)
    (fun q => q.1 ≤ T.length ∧ q.2.1 ≤ q.1 ∧ q.2.2.length = counts.length ∧ (∀ v ∈ q.2.2, 0 ≤ v ∧ v ≤ (j - kn) * 4096 + q.1) ∧ walk (T.drop q.1) q.2.2 q.2.1 = walk T ln 0)
    (fun q => T.length - q.1) ?_ (0, 0, ln) ⟨by simp, by simp, h4, fun v hv => by simpa using h5 v hv, rfl⟩) rfl rfl
  intro ⟨i, p, l⟩ ⟨g1, g2, g3, g4, g5⟩ ih3
  simp only at g1 g2 g3 g4 g5 ih3 ⊢
  by_cases hlt : i < T.length
  · obtain ⟨x, hx⟩ : ∃ x, T[i]? = some x := ⟨_, List.getElem?_eq_getElem hlt⟩
    have hxs := (hlv kn x (hTm x (List.mem_of_getElem? hx))).2
    rw [drop_cons hx, walk] at g5
    by_cases hs : 0 ≤ x.symbol
    · rw [if_pos hs] at g5
      obtain ⟨v, hv⟩ : ∃ v, l[x.symbol.toNat]? = some v := ⟨_, List.getElem?_eq_getElem (by omega)⟩
      have hv4 := g4 v (List.mem_of_getElem? hv)
      have hgd : l.getD x.symbol.toNat 0 = v := by simp [List.getD, hv]
      rw [hgd] at g5
      repeat' (first | (refine k_op1 ?_; (first | refine o_sv rfl (by decide) ?_ | (refine k_load ?_; (first | refine o_val (v_rloadm hv rfl rfl rfl) rfl rfl (by decide) ?_ | refine o_val (v_load rfl rfl rfl rfl) rfl rfl (by decide) ?_ | refine o_val (v_loadea rfl rfl) rfl rfl (by decide) ?_)) | (refine k_field ?_; (refine o_val (v_field rfl rfl) rfl rfl (by decide) ?_)) | (refine k_index ?_; (first | refine o_val (v_index rfl (by omega) (idx hx) rfl) rfl rfl (by decide) ?_ | refine o_val (v_rindex rfl (by omega) (by rw [List.length_map]; omega) rfl) rfl rfl (by decide) ?_)) | (refine k_bin ?_; (first | refine o_val (v_add (wi64 (by omega) (by omega))) rfl rfl (by decide) ?_ | refine o_val (v_sub (wi64 (by omega) (by omega))) rfl rfl (by decide) ?_ | refine o_val (v_mul (wi64 (by omega) (by omega))) rfl rfl (by decide) ?_)) | (refine k_store ?_; (first | refine o_rstorem (v + 1) rfl rfl rfl rfl hv rfl rfl rfl rfl ?_ | refine o_store0 rfl rfl rfl rfl rfl rfl ?_)) | (refine k_alloc ?_; (refine o_does (d_alloc rfl rfl (by decide)) ?_)))) | (refine k_ops ?_; (first | refine o_go (by first | exact .inl rfl | exact .inr ⟨_, _, _, rfl, rfl, rfl⟩) ?_ | refine o_nil ?_)) | (refine k_run ?_; (first | refine r_seq ?_ | refine r_region ?_ | refine r_skip ?_ | refine r_block ?_ | refine r_inBlock ?_ | refine r_if rfl (fun _ => ?_) (fun _ => ?_) | refine r_exit rfl ?_)))
      all_goals try (exfalso; omega)
      refine r_less (ih3 (i + 1, p, l.set x.symbol.toNat (v + 1)) ⟨by simp only; omega, by simp only; omega, by simp only [List.length_set]; exact g3, fun w hw => ?_, g5⟩ (by simp only; omega)) rfl rfl
      rcases List.mem_or_eq_of_mem_set hw with hw | rfl
      · have := g4 w hw; simp only; omega
      · simp only; omega
    · rw [if_neg hs] at g5
      repeat' (first | (refine k_op1 ?_; (first | refine o_sv rfl (by decide) ?_ | (refine k_load ?_; (first | refine o_val (v_load rfl rfl rfl rfl) rfl rfl (by decide) ?_ | refine o_val (v_loadea rfl rfl) rfl rfl (by decide) ?_)) | (refine k_field ?_; (refine o_val (v_field rfl rfl) rfl rfl (by decide) ?_)) | (refine k_index ?_; (refine o_val (v_index rfl (by omega) (idx hx) rfl) rfl rfl (by decide) ?_)) | (refine k_bin ?_; (first | refine o_val (v_add (wi64 (by omega) (by omega))) rfl rfl (by decide) ?_ | refine o_val (v_sub (wi64 (by omega) (by omega))) rfl rfl (by decide) ?_ | refine o_val (v_mul (wi64 (by omega) (by omega))) rfl rfl (by decide) ?_)) | (refine k_store ?_; (refine o_store0 rfl rfl rfl rfl rfl rfl ?_)) | (refine k_alloc ?_; (refine o_does (d_alloc rfl rfl (by decide)) ?_)))) | (refine k_ops ?_; (first | refine o_go (by first | exact .inl rfl | exact .inr ⟨_, _, _, rfl, rfl, rfl⟩) ?_ | refine o_nil ?_)) | (refine k_run ?_; (first | refine r_seq ?_ | refine r_region ?_ | refine r_skip ?_ | refine r_block ?_ | refine r_inBlock ?_ | refine r_if rfl (fun _ => ?_) (fun _ => ?_) | refine r_exit rfl ?_)))
      all_goals try (exfalso; omega)
      exact r_less (ih3 (i + 1, p + 1, l) ⟨by simp only; omega, by simp only; omega, g3, fun w hw => by have := g4 w hw; simp only; omega, g5⟩ (by simp only; omega)) rfl rfl
  obtain rfl : i = T.length := by omega
  rw [List.drop_length, walk] at g5
  have hp1 : (walk T ln 0).1 = l := by rw [← g5]
  have hp2 : (walk T ln 0).2 = p := by rw [← g5]
  repeat' (first | (refine k_op1 ?_; (first | refine o_sv rfl (by decide) ?_ | (refine k_bin ?_; (first | refine o_val (v_sub (wi64 (by omega) (by omega))) rfl rfl (by decide) ?_ | refine o_val (v_mul (wi64 (by omega) (by omega))) rfl rfl (by decide) ?_)))) | (refine k_ops ?_; (first | refine o_go (by first | exact .inl rfl | exact .inr ⟨_, _, _, rfl, rfl, rfl⟩) ?_ | refine o_nil ?_)) | (refine k_run ?_; (first | refine r_seq ?_ | refine r_region ?_ | refine r_skip ?_ | refine r_block ?_ | refine r_inBlock ?_ | refine r_if rfl (fun _ => ?_) (fun _ => ?_) | refine r_exit rfl ?_)))
  all_goals try (exfalso; omega)
  refine r_less (ih2 ((kn : Int) - 1, 2 * (p : Int), l) ⟨by simp only; omega, by simp only; omega, by simp only; omega, g3, fun v hv => by have := g4 v hv; simp only; omega, fun hk0 => ?_, fun hk0 => ?_⟩ (by simp only; omega)) rfl rfl
  · simp only at hk0
    have : kn = 0 := by omega
    subst this
    rw [← h8, back, hT, hp1]
  · simp only at hk0
    obtain ⟨m, rfl⟩ : ∃ m, kn = m + 1 := ⟨kn - 1, by omega⟩
    have em : (((m + 1 : Nat) : Int) - 1).toNat = m := by omega
    have ep : (2 * (p : Int)).toNat = 2 * p := by omega
    simp only [em, ep]
    refine ⟨?_, ?_⟩
    · have a1 := walk_pks T ln 0
      have a2 := pks_take_le (lvl leaves (m + 1)) tk.toNat
      have a3 : pks (lvl leaves (m + 1)) = (lvl leaves m).length / 2 := pks_next leaves (lvl leaves m) fun x hx => (hlm x hx).2.2.1
      rw [hT] at a2
      omega
    · rw [← h8, back, hT, hp1, hp2]
end Go.Proofs.Ytlgdilkmcfpjjaa
