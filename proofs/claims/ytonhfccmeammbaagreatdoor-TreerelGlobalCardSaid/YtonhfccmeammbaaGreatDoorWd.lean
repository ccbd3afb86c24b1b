/- What the reference and the listed functions compute. -/
import Derived.Test.YtonhfccmeammbaaGreatDoorWa
import Derived.Test.YtonhfccmeammbaaGreatDoorFb
set_option linter.all false
set_option linter.unusedVariables false
set_option linter.unusedSimpArgs false
namespace Go.Proofs.YtonhfccmeammbaaGreatDoor
open Go.Ab
attribute [local irreducible] Run Ops Op1 Does Val Tr PureF Eff1

theorem list_eq {α : Type} {a b : List α} (hl : a.length = b.length) (h : ∀ j < a.length, a[j]? = b[j]?) : a = b := by
  apply List.ext_getElem?
  intro j
  by_cases hj : j < a.length
  · exact h j hj
  · rw [List.getElem?_eq_none (by omega), List.getElem?_eq_none (by omega)]

theorem ints_s (a b : List Int) (ha : a.length ≤ 1000000) (hb : b.length ≤ 1000000) : PureF Tryz.prog 42 [.d (ints a), .d (ints b)] (B (decide (a = b))) := by
  refine pure_of fun H => ?_
  refine spec_of Tryz.func42 (by kernel_rfl) rfl (by simp) ?_
  dsimp only [Tryz.f42]
  repeat' (first | refine r_seq ?_ | refine r_region ?_ | refine o_nil ?_ | refine r_skip ?_ | refine r_block ?_ | refine r_scope ?_ | refine r_inScope ?_ | refine r_tr ?_ | refine t_end mix (by kernel_rfl) ?_ | refine r_inBlock ?_ | refine r_label ?_ | refine o_no rfl rfl (by decide) ?_ | refine o_no2 rfl rfl (by decide) ?_ | refine o_go (by first | exact .inl rfl | exact .inr ⟨_, _, _, rfl, rfl, rfl⟩) ?_ | refine o_sv rfl (by decide) ?_ | refine o_lit rfl rfl rfl rfl rfl rfl rfl rfl (by decide) ?_ | refine o_build rfl rfl rfl rfl rfl rfl rfl (by decide) ?_ | refine o_does (d_alloc rfl rfl (by decide)) ?_ | refine o_does (d_box_d rfl rfl (by decide)) ?_ | refine o_store0 rfl rfl rfl rfl rfl rfl ?_ | refine o_store rfl rfl rfl rfl rfl rfl rfl rfl rfl ?_ | refine o_app1 rfl rfl _ rfl rfl rfl rfl rfl rfl rfl (by decide) (by omega) ?_ | refine o_val (v_index rfl (by omega) (idx hx) rfl) rfl rfl (by decide) ?_ | refine o_val (v_index rfl (by omega) (idx hy) rfl) rfl rfl (by decide) ?_ | refine o_val (v_index rfl (by omega) (idx hz) rfl) rfl rfl (by decide) ?_ | refine o_val (v_field rfl rfl) rfl rfl (by decide) ?_ | refine o_val (v_loada rfl rfl rfl) rfl rfl (by decide) ?_ | refine o_val (v_load rfl rfl rfl rfl) rfl rfl (by decide) ?_ | refine o_val (v_lenm rfl) rfl rfl (by decide) ?_ | refine o_val (v_loade rfl rfl rfl) rfl rfl (by decide) ?_ | refine o_val (v_rload rfl rfl rfl rfl) rfl rfl (by decide) ?_ | refine o_val (v_add (wi64 (by omega) (by omega))) rfl rfl (by decide) ?_ | refine o_val (v_sub (wi64 (by omega) (by omega))) rfl rfl (by decide) ?_ | refine o_val (v_loadea rfl rfl) rfl rfl (by decide) ?_ | refine o_val (v_fielde rfl rfl) rfl rfl (by decide) ?_ | refine o_val (v_len rfl) rfl rfl (by decide) ?_ | refine o_val (v_lens rfl) rfl rfl (by decide) ?_ | refine o_val (v_lenrm rfl) rfl rfl (by decide) ?_ | refine o_val (v_lenr rfl) rfl rfl (by decide) ?_ | refine o_val v_min rfl rfl (by decide) ?_ | refine o_val v_max rfl rfl (by decide) ?_ | refine o_val (v_beql rfl) rfl rfl (by decide) ?_ | refine o_val (v_bneq rfl) rfl rfl (by decide) ?_ | refine o_val (v_fieldr rfl rfl) rfl rfl (by decide) ?_ | refine o_val v_slss rfl rfl (by decide) ?_ | refine o_val v_sgtr rfl rfl (by decide) ?_ | refine o_val v_sgeq rfl rfl (by decide) ?_ | refine o_val v_sleq rfl rfl (by decide) ?_ | refine o_val (v_loadp rfl rfl rfl rfl) rfl rfl (by decide) ?_ | refine o_casep rfl rfl (fun _ => ?_) (fun _ => ?_) | refine o_casen rfl rfl (fun _ => ?_) (fun _ => ?_) | refine o_case rfl rfl (fun _ => ?_) (fun _ => ?_) | refine r_true rfl ?_ | refine r_false rfl ?_ | refine r_if rfl (fun _ => ?_) (fun _ => ?_) | refine r_ifn rfl (fun _ => ?_) (fun _ => ?_) | refine r_cond rfl (fun _ => ?_) (fun _ => ?_) | refine r_exit rfl ?_)
  · rename_i hne
    refine r_ret Tryz.func42 _ (res_one rfl rfl) ⟨?_, rfl⟩
    have : a ≠ b := fun e => hne (by rw [e])
    simp [this]
  · rename_i hl
    have hl' : a.length = b.length := by omega
    refine r_loop ?_
    refine r_less (r_inv (fun k : Nat => ⟨26, [(0, .d (ints a)), (1, .d (ints b)), (12, I .i64 a.length), (13, I .i64 k)], [], H⟩) (fun k => k ≤ a.length ∧ ∀ j < k, a[j]? = b[j]?) (fun k => a.length - k) ?_ 0 ⟨by omega, by simp⟩) rfl rfl
    intro k ⟨hk, hno⟩ ih
    by_cases hlt : k < a.length
    · obtain ⟨x, hx⟩ : ∃ x, a[k]? = some x := ⟨_, List.getElem?_eq_getElem hlt⟩
      obtain ⟨y, hy⟩ : ∃ y, b[k]? = some y := ⟨_, List.getElem?_eq_getElem (by omega)⟩
      repeat' (first | refine r_seq ?_ | refine r_region ?_ | refine o_nil ?_ | refine r_skip ?_ | refine r_block ?_ | refine r_scope ?_ | refine r_inScope ?_ | refine r_tr ?_ | refine t_end mix (by kernel_rfl) ?_ | refine r_inBlock ?_ | refine r_label ?_ | refine o_no rfl rfl (by decide) ?_ | refine o_no2 rfl rfl (by decide) ?_ | refine o_go (by first | exact .inl rfl | exact .inr ⟨_, _, _, rfl, rfl, rfl⟩) ?_ | refine o_sv rfl (by decide) ?_ | refine o_lit rfl rfl rfl rfl rfl rfl rfl rfl (by decide) ?_ | refine o_build rfl rfl rfl rfl rfl rfl rfl (by decide) ?_ | refine o_does (d_alloc rfl rfl (by decide)) ?_ | refine o_does (d_box_d rfl rfl (by decide)) ?_ | refine o_store0 rfl rfl rfl rfl rfl rfl ?_ | refine o_store rfl rfl rfl rfl rfl rfl rfl rfl rfl ?_ | refine o_app1 rfl rfl _ rfl rfl rfl rfl rfl rfl rfl (by decide) (by omega) ?_ | refine o_val (v_index rfl (by omega) (idx hx) rfl) rfl rfl (by decide) ?_ | refine o_val (v_index rfl (by omega) (idx hy) rfl) rfl rfl (by decide) ?_ | refine o_val (v_index rfl (by omega) (idx hz) rfl) rfl rfl (by decide) ?_ | refine o_val (v_field rfl rfl) rfl rfl (by decide) ?_ | refine o_val (v_loada rfl rfl rfl) rfl rfl (by decide) ?_ | refine o_val (v_load rfl rfl rfl rfl) rfl rfl (by decide) ?_ | refine o_val (v_lenm rfl) rfl rfl (by decide) ?_ | refine o_val (v_loade rfl rfl rfl) rfl rfl (by decide) ?_ | refine o_val (v_rload rfl rfl rfl rfl) rfl rfl (by decide) ?_ | refine o_val (v_add (wi64 (by omega) (by omega))) rfl rfl (by decide) ?_ | refine o_val (v_sub (wi64 (by omega) (by omega))) rfl rfl (by decide) ?_ | refine o_val (v_loadea rfl rfl) rfl rfl (by decide) ?_ | refine o_val (v_fielde rfl rfl) rfl rfl (by decide) ?_ | refine o_val (v_len rfl) rfl rfl (by decide) ?_ | refine o_val (v_lens rfl) rfl rfl (by decide) ?_ | refine o_val (v_lenrm rfl) rfl rfl (by decide) ?_ | refine o_val (v_lenr rfl) rfl rfl (by decide) ?_ | refine o_val v_min rfl rfl (by decide) ?_ | refine o_val v_max rfl rfl (by decide) ?_ | refine o_val (v_beql rfl) rfl rfl (by decide) ?_ | refine o_val (v_bneq rfl) rfl rfl (by decide) ?_ | refine o_val (v_fieldr rfl rfl) rfl rfl (by decide) ?_ | refine o_val v_slss rfl rfl (by decide) ?_ | refine o_val v_sgtr rfl rfl (by decide) ?_ | refine o_val v_sgeq rfl rfl (by decide) ?_ | refine o_val v_sleq rfl rfl (by decide) ?_ | refine o_val (v_loadp rfl rfl rfl rfl) rfl rfl (by decide) ?_ | refine o_casep rfl rfl (fun _ => ?_) (fun _ => ?_) | refine o_casen rfl rfl (fun _ => ?_) (fun _ => ?_) | refine o_case rfl rfl (fun _ => ?_) (fun _ => ?_) | refine r_true rfl ?_ | refine r_false rfl ?_ | refine r_if rfl (fun _ => ?_) (fun _ => ?_) | refine r_ifn rfl (fun _ => ?_) (fun _ => ?_) | refine r_cond rfl (fun _ => ?_) (fun _ => ?_) | refine r_exit rfl ?_)
      · repeat' (first | refine t_pass rfl rfl (by decide) ?_ | refine t_pass2 rfl rfl (by decide) ?_ | refine t_sv rfl (by first | exact rfl | exact ⟨_, rfl, rfl, rfl⟩) (by decide) ?_ | refine t_val (v_index rfl (by omega) (idx hx) rfl) (by first | exact rfl | exact ⟨_, rfl, rfl, rfl⟩) rfl rfl (by decide) ?_ | refine t_val (v_index rfl (by omega) (idx hy) rfl) (by first | exact rfl | exact ⟨_, rfl, rfl, rfl⟩) rfl rfl (by decide) ?_ | refine t_alloc (by first | exact rfl | exact ⟨_, rfl, rfl, rfl⟩) rfl rfl (by decide) ?_ | refine t_lit (by first | exact rfl | exact ⟨_, rfl, rfl, rfl⟩) rfl rfl rfl rfl rfl rfl rfl rfl (by decide) ?_ | refine t_build (by first | exact rfl | exact ⟨_, rfl, rfl, rfl⟩) rfl rfl rfl rfl rfl rfl rfl (by decide) ?_ | refine t_app1 (by first | exact rfl | exact ⟨_, rfl, rfl, rfl⟩) rfl rfl _ rfl rfl rfl rfl rfl rfl rfl (by decide) (by omega) ?_ | refine t_val (v_index rfl (by omega) (idx hx) rfl) (by first | exact rfl | exact ⟨_, rfl, rfl, rfl⟩) rfl rfl (by decide) ?_ | refine t_val (v_index rfl (by omega) (idx hy) rfl) (by first | exact rfl | exact ⟨_, rfl, rfl, rfl⟩) rfl rfl (by decide) ?_ | refine t_val (v_index rfl (by omega) (idx hz) rfl) (by first | exact rfl | exact ⟨_, rfl, rfl, rfl⟩) rfl rfl (by decide) ?_ | refine t_val (v_field rfl rfl) (by first | exact rfl | exact ⟨_, rfl, rfl, rfl⟩) rfl rfl (by decide) ?_ | refine t_val (v_loada rfl rfl rfl) (by first | exact rfl | exact ⟨_, rfl, rfl, rfl⟩) rfl rfl (by decide) ?_ | refine t_val (v_load rfl rfl rfl rfl) (by first | exact rfl | exact ⟨_, rfl, rfl, rfl⟩) rfl rfl (by decide) ?_ | refine t_val (v_lenm rfl) (by first | exact rfl | exact ⟨_, rfl, rfl, rfl⟩) rfl rfl (by decide) ?_ | refine t_val (v_loade rfl rfl rfl) (by first | exact rfl | exact ⟨_, rfl, rfl, rfl⟩) rfl rfl (by decide) ?_ | refine t_val (v_rload rfl rfl rfl rfl) (by first | exact rfl | exact ⟨_, rfl, rfl, rfl⟩) rfl rfl (by decide) ?_ | refine t_val (v_add (wi64 (by omega) (by omega))) (by first | exact rfl | exact ⟨_, rfl, rfl, rfl⟩) rfl rfl (by decide) ?_ | refine t_val (v_sub (wi64 (by omega) (by omega))) (by first | exact rfl | exact ⟨_, rfl, rfl, rfl⟩) rfl rfl (by decide) ?_ | refine t_val (v_loadea rfl rfl) (by first | exact rfl | exact ⟨_, rfl, rfl, rfl⟩) rfl rfl (by decide) ?_ | refine t_val (v_fielde rfl rfl) (by first | exact rfl | exact ⟨_, rfl, rfl, rfl⟩) rfl rfl (by decide) ?_ | refine t_val (v_len rfl) (by first | exact rfl | exact ⟨_, rfl, rfl, rfl⟩) rfl rfl (by decide) ?_ | refine t_val (v_lens rfl) (by first | exact rfl | exact ⟨_, rfl, rfl, rfl⟩) rfl rfl (by decide) ?_ | refine t_val (v_lenrm rfl) (by first | exact rfl | exact ⟨_, rfl, rfl, rfl⟩) rfl rfl (by decide) ?_ | refine t_val (v_lenr rfl) (by first | exact rfl | exact ⟨_, rfl, rfl, rfl⟩) rfl rfl (by decide) ?_ | refine t_val v_min (by first | exact rfl | exact ⟨_, rfl, rfl, rfl⟩) rfl rfl (by decide) ?_ | refine t_val v_max (by first | exact rfl | exact ⟨_, rfl, rfl, rfl⟩) rfl rfl (by decide) ?_ | refine t_val (v_beql rfl) (by first | exact rfl | exact ⟨_, rfl, rfl, rfl⟩) rfl rfl (by decide) ?_ | refine t_val (v_bneq rfl) (by first | exact rfl | exact ⟨_, rfl, rfl, rfl⟩) rfl rfl (by decide) ?_ | refine t_val (v_fieldr rfl rfl) (by first | exact rfl | exact ⟨_, rfl, rfl, rfl⟩) rfl rfl (by decide) ?_ | refine t_val v_slss (by first | exact rfl | exact ⟨_, rfl, rfl, rfl⟩) rfl rfl (by decide) ?_ | refine t_val v_sgtr (by first | exact rfl | exact ⟨_, rfl, rfl, rfl⟩) rfl rfl (by decide) ?_ | refine t_val v_sgeq (by first | exact rfl | exact ⟨_, rfl, rfl, rfl⟩) rfl rfl (by decide) ?_ | refine t_val v_sleq (by first | exact rfl | exact ⟨_, rfl, rfl, rfl⟩) rfl rfl (by decide) ?_ | refine t_val (v_loadp rfl rfl rfl rfl) (by first | exact rfl | exact ⟨_, rfl, rfl, rfl⟩) rfl rfl (by decide) ?_ | refine t_store0 (by first | exact rfl | exact ⟨_, rfl, rfl, rfl⟩) rfl rfl rfl rfl rfl rfl ?_ | refine t_store (by first | exact rfl | exact ⟨_, rfl, rfl, rfl⟩) rfl rfl rfl rfl rfl rfl rfl rfl rfl ?_ | (refine t_either rfl rfl (fun hg => ?_) (fun hg => ?_) <;> simp only [hg] <;> (try simp only [decide_eq_true_eq, decide_eq_false_iff_not, Bool.not_eq_true', Bool.not_eq_false'] at hg)))
        repeat' (first | refine r_seq ?_ | refine r_region ?_ | refine o_nil ?_ | refine r_skip ?_ | refine r_block ?_ | refine r_scope ?_ | refine r_inScope ?_ | refine r_tr ?_ | refine t_end mix (by kernel_rfl) ?_ | refine r_inBlock ?_ | refine r_label ?_ | refine o_no rfl rfl (by decide) ?_ | refine o_no2 rfl rfl (by decide) ?_ | refine o_go (by first | exact .inl rfl | exact .inr ⟨_, _, _, rfl, rfl, rfl⟩) ?_ | refine o_sv rfl (by decide) ?_ | refine o_lit rfl rfl rfl rfl rfl rfl rfl rfl (by decide) ?_ | refine o_build rfl rfl rfl rfl rfl rfl rfl (by decide) ?_ | refine o_does (d_alloc rfl rfl (by decide)) ?_ | refine o_does (d_box_d rfl rfl (by decide)) ?_ | refine o_store0 rfl rfl rfl rfl rfl rfl ?_ | refine o_store rfl rfl rfl rfl rfl rfl rfl rfl rfl ?_ | refine o_app1 rfl rfl _ rfl rfl rfl rfl rfl rfl rfl (by decide) (by omega) ?_ | refine o_val (v_index rfl (by omega) (idx hx) rfl) rfl rfl (by decide) ?_ | refine o_val (v_index rfl (by omega) (idx hy) rfl) rfl rfl (by decide) ?_ | refine o_val (v_index rfl (by omega) (idx hz) rfl) rfl rfl (by decide) ?_ | refine o_val (v_field rfl rfl) rfl rfl (by decide) ?_ | refine o_val (v_loada rfl rfl rfl) rfl rfl (by decide) ?_ | refine o_val (v_load rfl rfl rfl rfl) rfl rfl (by decide) ?_ | refine o_val (v_lenm rfl) rfl rfl (by decide) ?_ | refine o_val (v_loade rfl rfl rfl) rfl rfl (by decide) ?_ | refine o_val (v_rload rfl rfl rfl rfl) rfl rfl (by decide) ?_ | refine o_val (v_add (wi64 (by omega) (by omega))) rfl rfl (by decide) ?_ | refine o_val (v_sub (wi64 (by omega) (by omega))) rfl rfl (by decide) ?_ | refine o_val (v_loadea rfl rfl) rfl rfl (by decide) ?_ | refine o_val (v_fielde rfl rfl) rfl rfl (by decide) ?_ | refine o_val (v_len rfl) rfl rfl (by decide) ?_ | refine o_val (v_lens rfl) rfl rfl (by decide) ?_ | refine o_val (v_lenrm rfl) rfl rfl (by decide) ?_ | refine o_val (v_lenr rfl) rfl rfl (by decide) ?_ | refine o_val v_min rfl rfl (by decide) ?_ | refine o_val v_max rfl rfl (by decide) ?_ | refine o_val (v_beql rfl) rfl rfl (by decide) ?_ | refine o_val (v_bneq rfl) rfl rfl (by decide) ?_ | refine o_val (v_fieldr rfl rfl) rfl rfl (by decide) ?_ | refine o_val v_slss rfl rfl (by decide) ?_ | refine o_val v_sgtr rfl rfl (by decide) ?_ | refine o_val v_sgeq rfl rfl (by decide) ?_ | refine o_val v_sleq rfl rfl (by decide) ?_ | refine o_val (v_loadp rfl rfl rfl rfl) rfl rfl (by decide) ?_ | refine o_casep rfl rfl (fun _ => ?_) (fun _ => ?_) | refine o_casen rfl rfl (fun _ => ?_) (fun _ => ?_) | refine o_case rfl rfl (fun _ => ?_) (fun _ => ?_) | refine r_true rfl ?_ | refine r_false rfl ?_ | refine r_if rfl (fun _ => ?_) (fun _ => ?_) | refine r_ifn rfl (fun _ => ?_) (fun _ => ?_) | refine r_cond rfl (fun _ => ?_) (fun _ => ?_) | refine r_exit rfl ?_)
        · rename_i hxy
          refine r_ret Tryz.func42 _ (res_one rfl rfl) ⟨?_, rfl⟩
          have : a ≠ b := fun e => by subst e; rw [hx] at hy; simp at hy; exact hxy hy
          simp [this]
        · rename_i hxy
          subst hxy
          refine r_less (ih (k + 1) ⟨by omega, fun j hj => ?_⟩ (by omega)) rfl rfl
          by_cases e : j = k
          · subst e; rw [hx, hy]
          · exact hno j (by omega)
      · rename_i h; omega
    · repeat' (first | refine r_seq ?_ | refine r_region ?_ | refine o_nil ?_ | refine r_skip ?_ | refine r_block ?_ | refine r_scope ?_ | refine r_inScope ?_ | refine r_tr ?_ | refine t_end mix (by kernel_rfl) ?_ | refine r_inBlock ?_ | refine r_label ?_ | refine o_no rfl rfl (by decide) ?_ | refine o_no2 rfl rfl (by decide) ?_ | refine o_go (by first | exact .inl rfl | exact .inr ⟨_, _, _, rfl, rfl, rfl⟩) ?_ | refine o_sv rfl (by decide) ?_ | refine o_lit rfl rfl rfl rfl rfl rfl rfl rfl (by decide) ?_ | refine o_build rfl rfl rfl rfl rfl rfl rfl (by decide) ?_ | refine o_does (d_alloc rfl rfl (by decide)) ?_ | refine o_does (d_box_d rfl rfl (by decide)) ?_ | refine o_store0 rfl rfl rfl rfl rfl rfl ?_ | refine o_store rfl rfl rfl rfl rfl rfl rfl rfl rfl ?_ | refine o_app1 rfl rfl _ rfl rfl rfl rfl rfl rfl rfl (by decide) (by omega) ?_ | refine o_val (v_index rfl (by omega) (idx hx) rfl) rfl rfl (by decide) ?_ | refine o_val (v_index rfl (by omega) (idx hy) rfl) rfl rfl (by decide) ?_ | refine o_val (v_index rfl (by omega) (idx hz) rfl) rfl rfl (by decide) ?_ | refine o_val (v_field rfl rfl) rfl rfl (by decide) ?_ | refine o_val (v_loada rfl rfl rfl) rfl rfl (by decide) ?_ | refine o_val (v_load rfl rfl rfl rfl) rfl rfl (by decide) ?_ | refine o_val (v_lenm rfl) rfl rfl (by decide) ?_ | refine o_val (v_loade rfl rfl rfl) rfl rfl (by decide) ?_ | refine o_val (v_rload rfl rfl rfl rfl) rfl rfl (by decide) ?_ | refine o_val (v_add (wi64 (by omega) (by omega))) rfl rfl (by decide) ?_ | refine o_val (v_sub (wi64 (by omega) (by omega))) rfl rfl (by decide) ?_ | refine o_val (v_loadea rfl rfl) rfl rfl (by decide) ?_ | refine o_val (v_fielde rfl rfl) rfl rfl (by decide) ?_ | refine o_val (v_len rfl) rfl rfl (by decide) ?_ | refine o_val (v_lens rfl) rfl rfl (by decide) ?_ | refine o_val (v_lenrm rfl) rfl rfl (by decide) ?_ | refine o_val (v_lenr rfl) rfl rfl (by decide) ?_ | refine o_val v_min rfl rfl (by decide) ?_ | refine o_val v_max rfl rfl (by decide) ?_ | refine o_val (v_beql rfl) rfl rfl (by decide) ?_ | refine o_val (v_bneq rfl) rfl rfl (by decide) ?_ | refine o_val (v_fieldr rfl rfl) rfl rfl (by decide) ?_ | refine o_val v_slss rfl rfl (by decide) ?_ | refine o_val v_sgtr rfl rfl (by decide) ?_ | refine o_val v_sgeq rfl rfl (by decide) ?_ | refine o_val v_sleq rfl rfl (by decide) ?_ | refine o_val (v_loadp rfl rfl rfl rfl) rfl rfl (by decide) ?_ | refine o_casep rfl rfl (fun _ => ?_) (fun _ => ?_) | refine o_casen rfl rfl (fun _ => ?_) (fun _ => ?_) | refine o_case rfl rfl (fun _ => ?_) (fun _ => ?_) | refine r_true rfl ?_ | refine r_false rfl ?_ | refine r_if rfl (fun _ => ?_) (fun _ => ?_) | refine r_ifn rfl (fun _ => ?_) (fun _ => ?_) | refine r_cond rfl (fun _ => ?_) (fun _ => ?_) | refine r_exit rfl ?_)
      · rename_i h; omega
      · refine r_ret Tryz.func42 _ (res_one rfl rfl) ⟨?_, rfl⟩
        have : a = b := list_eq hl' fun j hj => hno j (by omega)
        simp [this]

theorem texts_s (a b : List Str) (ha : a.length ≤ 1000000) (hb : b.length ≤ 1000000) : PureF Tryz.prog 83 [.d (strs a), .d (strs b)] (B (decide (a = b))) := by
  refine pure_of fun H => ?_
  refine spec_of Tryz.func83 (by kernel_rfl) rfl (by simp) ?_
  dsimp only [Tryz.f83]
  repeat' (first | refine r_seq ?_ | refine r_region ?_ | refine o_nil ?_ | refine r_skip ?_ | refine r_block ?_ | refine r_scope ?_ | refine r_inScope ?_ | refine r_tr ?_ | refine t_end mix (by kernel_rfl) ?_ | refine r_inBlock ?_ | refine r_label ?_ | refine o_no rfl rfl (by decide) ?_ | refine o_no2 rfl rfl (by decide) ?_ | refine o_go (by first | exact .inl rfl | exact .inr ⟨_, _, _, rfl, rfl, rfl⟩) ?_ | refine o_sv rfl (by decide) ?_ | refine o_lit rfl rfl rfl rfl rfl rfl rfl rfl (by decide) ?_ | refine o_build rfl rfl rfl rfl rfl rfl rfl (by decide) ?_ | refine o_does (d_alloc rfl rfl (by decide)) ?_ | refine o_does (d_box_d rfl rfl (by decide)) ?_ | refine o_store0 rfl rfl rfl rfl rfl rfl ?_ | refine o_store rfl rfl rfl rfl rfl rfl rfl rfl rfl ?_ | refine o_app1 rfl rfl _ rfl rfl rfl rfl rfl rfl rfl (by decide) (by omega) ?_ | refine o_val (v_index rfl (by omega) (idx hx) rfl) rfl rfl (by decide) ?_ | refine o_val (v_index rfl (by omega) (idx hy) rfl) rfl rfl (by decide) ?_ | refine o_val (v_index rfl (by omega) (idx hz) rfl) rfl rfl (by decide) ?_ | refine o_val (v_field rfl rfl) rfl rfl (by decide) ?_ | refine o_val (v_loada rfl rfl rfl) rfl rfl (by decide) ?_ | refine o_val (v_load rfl rfl rfl rfl) rfl rfl (by decide) ?_ | refine o_val (v_lenm rfl) rfl rfl (by decide) ?_ | refine o_val (v_loade rfl rfl rfl) rfl rfl (by decide) ?_ | refine o_val (v_rload rfl rfl rfl rfl) rfl rfl (by decide) ?_ | refine o_val (v_add (wi64 (by omega) (by omega))) rfl rfl (by decide) ?_ | refine o_val (v_sub (wi64 (by omega) (by omega))) rfl rfl (by decide) ?_ | refine o_val (v_loadea rfl rfl) rfl rfl (by decide) ?_ | refine o_val (v_fielde rfl rfl) rfl rfl (by decide) ?_ | refine o_val (v_len rfl) rfl rfl (by decide) ?_ | refine o_val (v_lens rfl) rfl rfl (by decide) ?_ | refine o_val (v_lenrm rfl) rfl rfl (by decide) ?_ | refine o_val (v_lenr rfl) rfl rfl (by decide) ?_ | refine o_val v_min rfl rfl (by decide) ?_ | refine o_val v_max rfl rfl (by decide) ?_ | refine o_val (v_beql rfl) rfl rfl (by decide) ?_ | refine o_val (v_bneq rfl) rfl rfl (by decide) ?_ | refine o_val (v_fieldr rfl rfl) rfl rfl (by decide) ?_ | refine o_val v_slss rfl rfl (by decide) ?_ | refine o_val v_sgtr rfl rfl (by decide) ?_ | refine o_val v_sgeq rfl rfl (by decide) ?_ | refine o_val v_sleq rfl rfl (by decide) ?_ | refine o_val (v_loadp rfl rfl rfl rfl) rfl rfl (by decide) ?_ | refine o_casep rfl rfl (fun _ => ?_) (fun _ => ?_) | refine o_casen rfl rfl (fun _ => ?_) (fun _ => ?_) | refine o_case rfl rfl (fun _ => ?_) (fun _ => ?_) | refine r_true rfl ?_ | refine r_false rfl ?_ | refine r_if rfl (fun _ => ?_) (fun _ => ?_) | refine r_ifn rfl (fun _ => ?_) (fun _ => ?_) | refine r_cond rfl (fun _ => ?_) (fun _ => ?_) | refine r_exit rfl ?_)
  · rename_i hne
    refine r_ret Tryz.func83 _ (res_one rfl rfl) ⟨?_, rfl⟩
    have : a ≠ b := fun e => hne (by rw [e])
    simp [this]
  · rename_i hl
    have hl' : a.length = b.length := by omega
    refine r_loop ?_
    refine r_less (r_inv (fun k : Nat => ⟨26, [(0, .d (strs a)), (1, .d (strs b)), (12, I .i64 a.length), (13, I .i64 k)], [], H⟩) (fun k => k ≤ a.length ∧ ∀ j < k, a[j]? = b[j]?) (fun k => a.length - k) ?_ 0 ⟨by omega, by simp⟩) rfl rfl
    intro k ⟨hk, hno⟩ ih
    by_cases hlt : k < a.length
    · obtain ⟨x, hx⟩ : ∃ x, a[k]? = some x := ⟨_, List.getElem?_eq_getElem hlt⟩
      obtain ⟨y, hy⟩ : ∃ y, b[k]? = some y := ⟨_, List.getElem?_eq_getElem (by omega)⟩
      repeat' (first | refine r_seq ?_ | refine r_region ?_ | refine o_nil ?_ | refine r_skip ?_ | refine r_block ?_ | refine r_scope ?_ | refine r_inScope ?_ | refine r_tr ?_ | refine t_end mix (by kernel_rfl) ?_ | refine r_inBlock ?_ | refine r_label ?_ | refine o_no rfl rfl (by decide) ?_ | refine o_no2 rfl rfl (by decide) ?_ | refine o_go (by first | exact .inl rfl | exact .inr ⟨_, _, _, rfl, rfl, rfl⟩) ?_ | refine o_sv rfl (by decide) ?_ | refine o_lit rfl rfl rfl rfl rfl rfl rfl rfl (by decide) ?_ | refine o_build rfl rfl rfl rfl rfl rfl rfl (by decide) ?_ | refine o_does (d_alloc rfl rfl (by decide)) ?_ | refine o_does (d_box_d rfl rfl (by decide)) ?_ | refine o_store0 rfl rfl rfl rfl rfl rfl ?_ | refine o_store rfl rfl rfl rfl rfl rfl rfl rfl rfl ?_ | refine o_app1 rfl rfl _ rfl rfl rfl rfl rfl rfl rfl (by decide) (by omega) ?_ | refine o_val (v_index rfl (by omega) (idx hx) rfl) rfl rfl (by decide) ?_ | refine o_val (v_index rfl (by omega) (idx hy) rfl) rfl rfl (by decide) ?_ | refine o_val (v_index rfl (by omega) (idx hz) rfl) rfl rfl (by decide) ?_ | refine o_val (v_field rfl rfl) rfl rfl (by decide) ?_ | refine o_val (v_loada rfl rfl rfl) rfl rfl (by decide) ?_ | refine o_val (v_load rfl rfl rfl rfl) rfl rfl (by decide) ?_ | refine o_val (v_lenm rfl) rfl rfl (by decide) ?_ | refine o_val (v_loade rfl rfl rfl) rfl rfl (by decide) ?_ | refine o_val (v_rload rfl rfl rfl rfl) rfl rfl (by decide) ?_ | refine o_val (v_add (wi64 (by omega) (by omega))) rfl rfl (by decide) ?_ | refine o_val (v_sub (wi64 (by omega) (by omega))) rfl rfl (by decide) ?_ | refine o_val (v_loadea rfl rfl) rfl rfl (by decide) ?_ | refine o_val (v_fielde rfl rfl) rfl rfl (by decide) ?_ | refine o_val (v_len rfl) rfl rfl (by decide) ?_ | refine o_val (v_lens rfl) rfl rfl (by decide) ?_ | refine o_val (v_lenrm rfl) rfl rfl (by decide) ?_ | refine o_val (v_lenr rfl) rfl rfl (by decide) ?_ | refine o_val v_min rfl rfl (by decide) ?_ | refine o_val v_max rfl rfl (by decide) ?_ | refine o_val (v_beql rfl) rfl rfl (by decide) ?_ | refine o_val (v_bneq rfl) rfl rfl (by decide) ?_ | refine o_val (v_fieldr rfl rfl) rfl rfl (by decide) ?_ | refine o_val v_slss rfl rfl (by decide) ?_ | refine o_val v_sgtr rfl rfl (by decide) ?_ | refine o_val v_sgeq rfl rfl (by decide) ?_ | refine o_val v_sleq rfl rfl (by decide) ?_ | refine o_val (v_loadp rfl rfl rfl rfl) rfl rfl (by decide) ?_ | refine o_casep rfl rfl (fun _ => ?_) (fun _ => ?_) | refine o_casen rfl rfl (fun _ => ?_) (fun _ => ?_) | refine o_case rfl rfl (fun _ => ?_) (fun _ => ?_) | refine r_true rfl ?_ | refine r_false rfl ?_ | refine r_if rfl (fun _ => ?_) (fun _ => ?_) | refine r_ifn rfl (fun _ => ?_) (fun _ => ?_) | refine r_cond rfl (fun _ => ?_) (fun _ => ?_) | refine r_exit rfl ?_)
      · repeat' (first | refine t_pass rfl rfl (by decide) ?_ | refine t_pass2 rfl rfl (by decide) ?_ | refine t_sv rfl (by first | exact rfl | exact ⟨_, rfl, rfl, rfl⟩) (by decide) ?_ | refine t_val (v_index rfl (by omega) (idx hx) rfl) (by first | exact rfl | exact ⟨_, rfl, rfl, rfl⟩) rfl rfl (by decide) ?_ | refine t_val (v_index rfl (by omega) (idx hy) rfl) (by first | exact rfl | exact ⟨_, rfl, rfl, rfl⟩) rfl rfl (by decide) ?_ | refine t_alloc (by first | exact rfl | exact ⟨_, rfl, rfl, rfl⟩) rfl rfl (by decide) ?_ | refine t_lit (by first | exact rfl | exact ⟨_, rfl, rfl, rfl⟩) rfl rfl rfl rfl rfl rfl rfl rfl (by decide) ?_ | refine t_build (by first | exact rfl | exact ⟨_, rfl, rfl, rfl⟩) rfl rfl rfl rfl rfl rfl rfl (by decide) ?_ | refine t_app1 (by first | exact rfl | exact ⟨_, rfl, rfl, rfl⟩) rfl rfl _ rfl rfl rfl rfl rfl rfl rfl (by decide) (by omega) ?_ | refine t_val (v_index rfl (by omega) (idx hx) rfl) (by first | exact rfl | exact ⟨_, rfl, rfl, rfl⟩) rfl rfl (by decide) ?_ | refine t_val (v_index rfl (by omega) (idx hy) rfl) (by first | exact rfl | exact ⟨_, rfl, rfl, rfl⟩) rfl rfl (by decide) ?_ | refine t_val (v_index rfl (by omega) (idx hz) rfl) (by first | exact rfl | exact ⟨_, rfl, rfl, rfl⟩) rfl rfl (by decide) ?_ | refine t_val (v_field rfl rfl) (by first | exact rfl | exact ⟨_, rfl, rfl, rfl⟩) rfl rfl (by decide) ?_ | refine t_val (v_loada rfl rfl rfl) (by first | exact rfl | exact ⟨_, rfl, rfl, rfl⟩) rfl rfl (by decide) ?_ | refine t_val (v_load rfl rfl rfl rfl) (by first | exact rfl | exact ⟨_, rfl, rfl, rfl⟩) rfl rfl (by decide) ?_ | refine t_val (v_lenm rfl) (by first | exact rfl | exact ⟨_, rfl, rfl, rfl⟩) rfl rfl (by decide) ?_ | refine t_val (v_loade rfl rfl rfl) (by first | exact rfl | exact ⟨_, rfl, rfl, rfl⟩) rfl rfl (by decide) ?_ | refine t_val (v_rload rfl rfl rfl rfl) (by first | exact rfl | exact ⟨_, rfl, rfl, rfl⟩) rfl rfl (by decide) ?_ | refine t_val (v_add (wi64 (by omega) (by omega))) (by first | exact rfl | exact ⟨_, rfl, rfl, rfl⟩) rfl rfl (by decide) ?_ | refine t_val (v_sub (wi64 (by omega) (by omega))) (by first | exact rfl | exact ⟨_, rfl, rfl, rfl⟩) rfl rfl (by decide) ?_ | refine t_val (v_loadea rfl rfl) (by first | exact rfl | exact ⟨_, rfl, rfl, rfl⟩) rfl rfl (by decide) ?_ | refine t_val (v_fielde rfl rfl) (by first | exact rfl | exact ⟨_, rfl, rfl, rfl⟩) rfl rfl (by decide) ?_ | refine t_val (v_len rfl) (by first | exact rfl | exact ⟨_, rfl, rfl, rfl⟩) rfl rfl (by decide) ?_ | refine t_val (v_lens rfl) (by first | exact rfl | exact ⟨_, rfl, rfl, rfl⟩) rfl rfl (by decide) ?_ | refine t_val (v_lenrm rfl) (by first | exact rfl | exact ⟨_, rfl, rfl, rfl⟩) rfl rfl (by decide) ?_ | refine t_val (v_lenr rfl) (by first | exact rfl | exact ⟨_, rfl, rfl, rfl⟩) rfl rfl (by decide) ?_ | refine t_val v_min (by first | exact rfl | exact ⟨_, rfl, rfl, rfl⟩) rfl rfl (by decide) ?_ | refine t_val v_max (by first | exact rfl | exact ⟨_, rfl, rfl, rfl⟩) rfl rfl (by decide) ?_ | refine t_val (v_beql rfl) (by first | exact rfl | exact ⟨_, rfl, rfl, rfl⟩) rfl rfl (by decide) ?_ | refine t_val (v_bneq rfl) (by first | exact rfl | exact ⟨_, rfl, rfl, rfl⟩) rfl rfl (by decide) ?_ | refine t_val (v_fieldr rfl rfl) (by first | exact rfl | exact ⟨_, rfl, rfl, rfl⟩) rfl rfl (by decide) ?_ | refine t_val v_slss (by first | exact rfl | exact ⟨_, rfl, rfl, rfl⟩) rfl rfl (by decide) ?_ | refine t_val v_sgtr (by first | exact rfl | exact ⟨_, rfl, rfl, rfl⟩) rfl rfl (by decide) ?_ | refine t_val v_sgeq (by first | exact rfl | exact ⟨_, rfl, rfl, rfl⟩) rfl rfl (by decide) ?_ | refine t_val v_sleq (by first | exact rfl | exact ⟨_, rfl, rfl, rfl⟩) rfl rfl (by decide) ?_ | refine t_val (v_loadp rfl rfl rfl rfl) (by first | exact rfl | exact ⟨_, rfl, rfl, rfl⟩) rfl rfl (by decide) ?_ | refine t_store0 (by first | exact rfl | exact ⟨_, rfl, rfl, rfl⟩) rfl rfl rfl rfl rfl rfl ?_ | refine t_store (by first | exact rfl | exact ⟨_, rfl, rfl, rfl⟩) rfl rfl rfl rfl rfl rfl rfl rfl rfl ?_ | (refine t_either rfl rfl (fun hg => ?_) (fun hg => ?_) <;> simp only [hg] <;> (try simp only [decide_eq_true_eq, decide_eq_false_iff_not, Bool.not_eq_true', Bool.not_eq_false'] at hg)))
        repeat' (first | refine r_seq ?_ | refine r_region ?_ | refine o_nil ?_ | refine r_skip ?_ | refine r_block ?_ | refine r_scope ?_ | refine r_inScope ?_ | refine r_tr ?_ | refine t_end mix (by kernel_rfl) ?_ | refine r_inBlock ?_ | refine r_label ?_ | refine o_no rfl rfl (by decide) ?_ | refine o_no2 rfl rfl (by decide) ?_ | refine o_go (by first | exact .inl rfl | exact .inr ⟨_, _, _, rfl, rfl, rfl⟩) ?_ | refine o_sv rfl (by decide) ?_ | refine o_lit rfl rfl rfl rfl rfl rfl rfl rfl (by decide) ?_ | refine o_build rfl rfl rfl rfl rfl rfl rfl (by decide) ?_ | refine o_does (d_alloc rfl rfl (by decide)) ?_ | refine o_does (d_box_d rfl rfl (by decide)) ?_ | refine o_store0 rfl rfl rfl rfl rfl rfl ?_ | refine o_store rfl rfl rfl rfl rfl rfl rfl rfl rfl ?_ | refine o_app1 rfl rfl _ rfl rfl rfl rfl rfl rfl rfl (by decide) (by omega) ?_ | refine o_val (v_index rfl (by omega) (idx hx) rfl) rfl rfl (by decide) ?_ | refine o_val (v_index rfl (by omega) (idx hy) rfl) rfl rfl (by decide) ?_ | refine o_val (v_index rfl (by omega) (idx hz) rfl) rfl rfl (by decide) ?_ | refine o_val (v_field rfl rfl) rfl rfl (by decide) ?_ | refine o_val (v_loada rfl rfl rfl) rfl rfl (by decide) ?_ | refine o_val (v_load rfl rfl rfl rfl) rfl rfl (by decide) ?_ | refine o_val (v_lenm rfl) rfl rfl (by decide) ?_ | refine o_val (v_loade rfl rfl rfl) rfl rfl (by decide) ?_ | refine o_val (v_rload rfl rfl rfl rfl) rfl rfl (by decide) ?_ | refine o_val (v_add (wi64 (by omega) (by omega))) rfl rfl (by decide) ?_ | refine o_val (v_sub (wi64 (by omega) (by omega))) rfl rfl (by decide) ?_ | refine o_val (v_loadea rfl rfl) rfl rfl (by decide) ?_ | refine o_val (v_fielde rfl rfl) rfl rfl (by decide) ?_ | refine o_val (v_len rfl) rfl rfl (by decide) ?_ | refine o_val (v_lens rfl) rfl rfl (by decide) ?_ | refine o_val (v_lenrm rfl) rfl rfl (by decide) ?_ | refine o_val (v_lenr rfl) rfl rfl (by decide) ?_ | refine o_val v_min rfl rfl (by decide) ?_ | refine o_val v_max rfl rfl (by decide) ?_ | refine o_val (v_beql rfl) rfl rfl (by decide) ?_ | refine o_val (v_bneq rfl) rfl rfl (by decide) ?_ | refine o_val (v_fieldr rfl rfl) rfl rfl (by decide) ?_ | refine o_val v_slss rfl rfl (by decide) ?_ | refine o_val v_sgtr rfl rfl (by decide) ?_ | refine o_val v_sgeq rfl rfl (by decide) ?_ | refine o_val v_sleq rfl rfl (by decide) ?_ | refine o_val (v_loadp rfl rfl rfl rfl) rfl rfl (by decide) ?_ | refine o_casep rfl rfl (fun _ => ?_) (fun _ => ?_) | refine o_casen rfl rfl (fun _ => ?_) (fun _ => ?_) | refine o_case rfl rfl (fun _ => ?_) (fun _ => ?_) | refine r_true rfl ?_ | refine r_false rfl ?_ | refine r_if rfl (fun _ => ?_) (fun _ => ?_) | refine r_ifn rfl (fun _ => ?_) (fun _ => ?_) | refine r_cond rfl (fun _ => ?_) (fun _ => ?_) | refine r_exit rfl ?_)
        · rename_i hxy
          refine r_ret Tryz.func83 _ (res_one rfl rfl) ⟨?_, rfl⟩
          have : a ≠ b := fun e => by subst e; rw [hx] at hy; simp at hy; exact hxy hy
          simp [this]
        · rename_i hxy
          subst hxy
          refine r_less (ih (k + 1) ⟨by omega, fun j hj => ?_⟩ (by omega)) rfl rfl
          by_cases e : j = k
          · subst e; rw [hx, hy]
          · exact hno j (by omega)
      · rename_i h; omega
    · repeat' (first | refine r_seq ?_ | refine r_region ?_ | refine o_nil ?_ | refine r_skip ?_ | refine r_block ?_ | refine r_scope ?_ | refine r_inScope ?_ | refine r_tr ?_ | refine t_end mix (by kernel_rfl) ?_ | refine r_inBlock ?_ | refine r_label ?_ | refine o_no rfl rfl (by decide) ?_ | refine o_no2 rfl rfl (by decide) ?_ | refine o_go (by first | exact .inl rfl | exact .inr ⟨_, _, _, rfl, rfl, rfl⟩) ?_ | refine o_sv rfl (by decide) ?_ | refine o_lit rfl rfl rfl rfl rfl rfl rfl rfl (by decide) ?_ | refine o_build rfl rfl rfl rfl rfl rfl rfl (by decide) ?_ | refine o_does (d_alloc rfl rfl (by decide)) ?_ | refine o_does (d_box_d rfl rfl (by decide)) ?_ | refine o_store0 rfl rfl rfl rfl rfl rfl ?_ | refine o_store rfl rfl rfl rfl rfl rfl rfl rfl rfl ?_ | refine o_app1 rfl rfl _ rfl rfl rfl rfl rfl rfl rfl (by decide) (by omega) ?_ | refine o_val (v_index rfl (by omega) (idx hx) rfl) rfl rfl (by decide) ?_ | refine o_val (v_index rfl (by omega) (idx hy) rfl) rfl rfl (by decide) ?_ | refine o_val (v_index rfl (by omega) (idx hz) rfl) rfl rfl (by decide) ?_ | refine o_val (v_field rfl rfl) rfl rfl (by decide) ?_ | refine o_val (v_loada rfl rfl rfl) rfl rfl (by decide) ?_ | refine o_val (v_load rfl rfl rfl rfl) rfl rfl (by decide) ?_ | refine o_val (v_lenm rfl) rfl rfl (by decide) ?_ | refine o_val (v_loade rfl rfl rfl) rfl rfl (by decide) ?_ | refine o_val (v_rload rfl rfl rfl rfl) rfl rfl (by decide) ?_ | refine o_val (v_add (wi64 (by omega) (by omega))) rfl rfl (by decide) ?_ | refine o_val (v_sub (wi64 (by omega) (by omega))) rfl rfl (by decide) ?_ | refine o_val (v_loadea rfl rfl) rfl rfl (by decide) ?_ | refine o_val (v_fielde rfl rfl) rfl rfl (by decide) ?_ | refine o_val (v_len rfl) rfl rfl (by decide) ?_ | refine o_val (v_lens rfl) rfl rfl (by decide) ?_ | refine o_val (v_lenrm rfl) rfl rfl (by decide) ?_ | refine o_val (v_lenr rfl) rfl rfl (by decide) ?_ | refine o_val v_min rfl rfl (by decide) ?_ | refine o_val v_max rfl rfl (by decide) ?_ | refine o_val (v_beql rfl) rfl rfl (by decide) ?_ | refine o_val (v_bneq rfl) rfl rfl (by decide) ?_ | refine o_val (v_fieldr rfl rfl) rfl rfl (by decide) ?_ | refine o_val v_slss rfl rfl (by decide) ?_ | refine o_val v_sgtr rfl rfl (by decide) ?_ | refine o_val v_sgeq rfl rfl (by decide) ?_ | refine o_val v_sleq rfl rfl (by decide) ?_ | refine o_val (v_loadp rfl rfl rfl rfl) rfl rfl (by decide) ?_ | refine o_casep rfl rfl (fun _ => ?_) (fun _ => ?_) | refine o_casen rfl rfl (fun _ => ?_) (fun _ => ?_) | refine o_case rfl rfl (fun _ => ?_) (fun _ => ?_) | refine r_true rfl ?_ | refine r_false rfl ?_ | refine r_if rfl (fun _ => ?_) (fun _ => ?_) | refine r_ifn rfl (fun _ => ?_) (fun _ => ?_) | refine r_cond rfl (fun _ => ?_) (fun _ => ?_) | refine r_exit rfl ?_)
      · rename_i h; omega
      · refine r_ret Tryz.func83 _ (res_one rfl rfl) ⟨?_, rfl⟩
        have : a = b := list_eq hl' fun j hj => hno j (by omega)
        simp [this]
end Go.Proofs.YtonhfccmeammbaaGreatDoor
namespace Go.Proofs.YtonhfccmeammbaaGreatDoor
open Go.Ab
attribute [local irreducible] Run Ops Op1 Does Val Tr PureF Eff1

def isChild (c : Corpus) (n : Int) (k : Nat) : Bool := match c.nodes[k]? with
  | some x => decide (x.parent = n)
  | none => false
def childrenOf (c : Corpus) (n : Int) : List Int := if -1 ≤ n ∧ n < c.nodes.length then sel c.nodes.length (isChild c n) else []
def holdsSpan (c : Corpus) (b e : Int) (k : Nat) : Bool := match c.nodes[k]? with
  | some x => decide (x.b ≤ b) && decide (e ≤ x.e)
  | none => false
def nodesOf (c : Corpus) (b e : Int) : List Int := if 0 ≤ b ∧ b < e ∧ e ≤ c.tokens.length then sel c.nodes.length (holdsSpan c b e) else []
def commonOf (c : Corpus) (a b : Int) : Int := if token c a && token c b then (nodesOf c (min a b) (max a b + 1)).getLastD (-1) else -1
abbrev Dspan (b e : Int) : PV := .d (.agg [Dint b, Dint e])

theorem nodes_s28 (c : Corpus) (b e : Int) (hc : c.nodes.length ≤ 1000000) (hr : -1000000 ≤ b ∧ e ≤ 1000000) : PureF Tryz.prog 41 [c.d, Dspan b e] (.d (ints (nodesOf c b e))) := by
  refine pure_of fun H => ?_
  refine spec_of Tryz.func41 (by kernel_rfl) rfl (by simp) ?_
  dsimp only [Tryz.f41]
  repeat' (first | (refine k_op1 ?_; (first | refine o_nil_row rfl rfl rfl (by decide) ?_ | refine o_sv rfl (by decide) ?_ | (refine k_load ?_; (refine o_val (v_load rfl rfl rfl rfl) rfl rfl (by decide) ?_)) | (refine k_field ?_; (refine o_val (v_field rfl rfl) rfl rfl (by decide) ?_)) | (refine k_blt ?_; (refine o_val (v_lenm rfl) rfl rfl (by decide) ?_)) | (refine k_box ?_; (refine o_does (d_box_d rfl rfl (by decide)) ?_)))) | (refine k_ops ?_; (first | refine o_go (by first | exact .inl rfl | exact .inr ⟨_, _, _, rfl, rfl, rfl⟩) ?_ | refine o_nil ?_ | refine o_no rfl rfl (by decide) ?_ | refine o_casep rfl rfl (fun _ => ?_) (fun _ => ?_))) | (refine k_run ?_; (first | refine r_seq ?_ | refine r_region ?_ | refine r_true rfl ?_ | refine r_skip ?_ | refine r_block ?_ | refine r_if rfl (fun _ => ?_) (fun _ => ?_))))
  · rename_i h
    refine r_nil 4 rfl ?_
    refine r_ret Tryz.func41 _ (res_one rfl rfl) ⟨?_, rfl⟩
    have : ¬ (0 ≤ b ∧ b < e ∧ e ≤ c.tokens.length) := by omega
    simp only [nodesOf, if_neg this]; rfl
  · rename_i h1 h
    refine r_nil 4 rfl ?_
    refine r_ret Tryz.func41 _ (res_one rfl rfl) ⟨?_, rfl⟩
    have : ¬ (0 ≤ b ∧ b < e ∧ e ≤ c.tokens.length) := by omega
    simp only [nodesOf, if_neg this]; rfl
  · rename_i h1 h2 h
    refine r_nil 4 rfl ?_
    refine r_ret Tryz.func41 _ (res_one rfl rfl) ⟨?_, rfl⟩
    have : ¬ (0 ≤ b ∧ b < e ∧ e ≤ c.tokens.length) := by omega
    simp only [nodesOf, if_neg this]; rfl
  · rename_i h1 h2 h3
    have hin : 0 ≤ b ∧ b < e ∧ e ≤ c.tokens.length := by omega
    refine r_loop ?_
    refine r_less (r_inv (fun k : Nat => ⟨52, [(2, .ptr (0, 2) 0), (3, .ptr (0, 3) 0), (5, .ref (0, 5)), (27, .d (.slice (c.nodes.map Node.cs))), (28, I .i64 c.nodes.length), (29, I .i64 k)], [(5, .row 3 1 ((sel k (holdsSpan c b e)).map fun x => [Dint x])), (3, .box ([Dint b, Dint e].map .d)), (2, .box (c.cs.map .d))], H⟩)
      (fun k => k ≤ c.nodes.length) (fun k => c.nodes.length - k) ?_ 0 (by omega)) rfl rfl
    intro k hk ih
    have hlen := sel_len k (holdsSpan c b e)
    by_cases hlt : k < c.nodes.length
    · obtain ⟨x, hx⟩ : ∃ x, c.nodes[k]? = some x := ⟨_, List.getElem?_eq_getElem hlt⟩
      repeat' (first | (refine k_op1 ?_; (first | refine o_sv rfl (by decide) ?_ | (refine k_load ?_; (first | refine o_val (v_load rfl rfl rfl rfl) rfl rfl (by decide) ?_ | refine o_val (v_loadea rfl rfl) rfl rfl (by decide) ?_)) | (refine k_field ?_; (refine o_val (v_field rfl rfl) rfl rfl (by decide) ?_)) | (refine k_index ?_; (refine o_val (v_index rfl (by omega) (idx hx) rfl) rfl rfl (by decide) ?_)) | (refine k_bin ?_; (refine o_val (v_add (wi64 (by omega) (by omega))) rfl rfl (by decide) ?_)) | (refine k_blt ?_; (refine o_app1 rfl rfl _ rfl rfl rfl rfl rfl rfl rfl (by decide) (by omega) ?_)) | (refine k_store ?_; (refine o_store0 rfl rfl rfl rfl rfl rfl ?_)) | (refine k_alloc ?_; (refine o_does (d_alloc rfl rfl (by decide)) ?_)) | (refine k_lit ?_; (refine o_lit rfl rfl rfl rfl rfl rfl rfl rfl (by decide) ?_)))) | (refine k_ops ?_; (first | refine o_go (by first | exact .inl rfl | exact .inr ⟨_, _, _, rfl, rfl, rfl⟩) ?_ | refine o_nil ?_ | refine o_no rfl rfl (by decide) ?_ | refine o_casep rfl rfl (fun _ => ?_) (fun _ => ?_))) | (refine k_run ?_; (first | refine r_seq ?_ | refine r_region ?_ | refine r_false rfl ?_ | refine r_skip ?_ | refine r_block ?_ | refine r_inBlock ?_ | refine r_if rfl (fun _ => ?_) (fun _ => ?_) | refine r_exit rfl ?_)))
      · rename_i hj hp hq
        refine r_ren 49 5 rfl rfl ?_
        rw [← sel_yes (p := holdsSpan c b e) (by simp [holdsSpan, hx, hp, hq])]
        exact r_less (ih (k + 1) (by omega) (by omega)) rfl rfl
      · rename_i hj hp hq
        rw [← sel_no (n := k) (p := holdsSpan c b e) (by simp [holdsSpan, hx, hp]; omega)]
        exact r_less (ih (k + 1) (by omega) (by omega)) rfl rfl
      · rename_i hj hp
        rw [← sel_no (n := k) (p := holdsSpan c b e) (by simp [holdsSpan, hx]; omega)]
        exact r_less (ih (k + 1) (by omega) (by omega)) rfl rfl
      · rename_i hj; omega
    · repeat' (first | (refine k_op1 ?_; (refine o_sv rfl (by decide) ?_)) | (refine k_ops ?_; (first | refine o_go (by first | exact .inl rfl | exact .inr ⟨_, _, _, rfl, rfl, rfl⟩) ?_ | refine o_nil ?_)) | (refine k_run ?_; (first | refine r_seq ?_ | refine r_region ?_ | refine r_skip ?_ | refine r_block ?_ | refine r_if rfl (fun _ => ?_) (fun _ => ?_) | refine r_exit rfl ?_)))
      · rename_i hj; omega
      · have e' : k = c.nodes.length := by omega
        subst e'
        refine r_freeze 5 rfl ?_
        refine r_ret Tryz.func41 _ (res_one rfl rfl) ⟨?_, rfl⟩
        simp only [nodesOf, if_pos hin]; rfl

theorem nodesOf_len (c : Corpus) (b e : Int) : (nodesOf c b e).length ≤ c.nodes.length := by
  simp only [nodesOf]; split
  · exact sel_len _ _
  · simp
theorem last_cases (l : List Int) : l = [] ∨ ∃ y, l[((l.length : Int) - 1).toNat]? = some y ∧ l.getLastD (-1) = y := by
  cases l with
  | nil => exact .inl rfl
  | cons x r =>
    refine .inr ⟨(x :: r).getLast (by simp), ?_, ?_⟩
    · rw [List.getLast_eq_getElem]
      rw [← List.getElem?_eq_getElem]
      congr 1
      simp only [List.length_cons]; omega
    · simp [List.getLastD_eq_getLast?, List.getLast?_eq_some_getLast]

theorem common_s29 (c : Corpus) (a b : Int) (hc : c.nodes.length ≤ 1000000) (ht : c.tokens.length ≤ 1000) : PureF Tryz.prog 23 [c.d, I .i64 a, I .i64 b] (I .i64 (commonOf c a b)) := by
  refine pure_of fun H => ?_
  refine spec_of Tryz.func23 (by kernel_rfl) rfl (by simp) ?_
  dsimp only [Tryz.f23]
  have tA := token_s c a
  have tB := token_s c b
  cases hta : token c a with
  | true =>
    rw [hta] at tA
    cases htb : token c b with
    | true =>
      rw [htb] at tB
      have ha := (token_iff c a).1 hta
      have hb := (token_iff c b).1 htb
      have hlen : (nodesOf c (min a b) (max a b + 1)).length ≤ 1000000 := Nat.le_trans (nodesOf_len _ _ _) hc
      rcases last_cases (nodesOf c (min a b) (max a b + 1)) with he | ⟨y, hy, hl⟩
      · repeat' (first | (refine k_op1 ?_; (first | refine o_sv rfl (by decide) ?_ | (refine k_load ?_; (refine o_val (v_loada rfl rfl rfl) rfl rfl (by decide) ?_)) | (refine k_bin ?_; (first | refine o_val (v_add (wi64 (by omega) (by omega))) rfl rfl (by decide) ?_ | refine o_val (v_sub (wi64 (by omega) (by omega))) rfl rfl (by decide) ?_)) | (refine k_blt ?_; (first | refine o_val (v_lenm rfl) rfl rfl (by decide) ?_ | refine o_val v_min rfl rfl (by decide) ?_ | refine o_val v_max rfl rfl (by decide) ?_)) | (refine k_call ?_; (first | refine o_fn tA rfl (by decide) ?_ | refine o_fn tB rfl (by decide) ?_ | refine o_fn (nodes_s28 c (min a b) (max a b + 1) hc (by omega)) rfl (by decide) ?_)) | (refine k_box ?_; (refine o_does (d_box_d rfl rfl (by decide)) ?_)) | (refine k_build ?_; (refine o_build rfl rfl rfl rfl rfl rfl rfl (by decide) ?_)))) | (refine k_ops ?_; (first | refine o_go (by first | exact .inl rfl | exact .inr ⟨_, _, _, rfl, rfl, rfl⟩) ?_ | refine o_nil ?_)) | (refine k_run ?_; (first | refine r_seq ?_ | refine r_region ?_ | refine r_false rfl ?_ | refine r_skip ?_ | refine r_if rfl (fun _ => ?_) (fun _ => ?_))))
        · refine r_ret Tryz.func23 _ (res_one rfl rfl) ⟨?_, rfl⟩
          simp [commonOf, hta, htb, he]
        · rename_i h; simp [he] at h
      · have hne : 0 < (nodesOf c (min a b) (max a b + 1)).length := by have := (List.getElem?_eq_some_iff.1 hy).1; omega
        repeat' (first | (refine k_op1 ?_; (first | refine o_sv rfl (by decide) ?_ | (refine k_load ?_; (first | refine o_val (v_loada rfl rfl rfl) rfl rfl (by decide) ?_ | refine o_val (v_loade rfl rfl rfl) rfl rfl (by decide) ?_)) | (refine k_index ?_; (refine o_val (v_index rfl (by omega) (idxi hy) rfl) rfl rfl (by decide) ?_)) | (refine k_bin ?_; (first | refine o_val (v_add (wi64 (by omega) (by omega))) rfl rfl (by decide) ?_ | refine o_val (v_sub (wi64 (by omega) (by omega))) rfl rfl (by decide) ?_)) | (refine k_blt ?_; (first | refine o_val (v_lenm rfl) rfl rfl (by decide) ?_ | refine o_val v_min rfl rfl (by decide) ?_ | refine o_val v_max rfl rfl (by decide) ?_)) | (refine k_call ?_; (first | refine o_fn tA rfl (by decide) ?_ | refine o_fn tB rfl (by decide) ?_ | refine o_fn (nodes_s28 c (min a b) (max a b + 1) hc (by omega)) rfl (by decide) ?_)) | (refine k_box ?_; (refine o_does (d_box_d rfl rfl (by decide)) ?_)) | (refine k_build ?_; (refine o_build rfl rfl rfl rfl rfl rfl rfl (by decide) ?_)))) | (refine k_ops ?_; (first | refine o_go (by first | exact .inl rfl | exact .inr ⟨_, _, _, rfl, rfl, rfl⟩) ?_ | refine o_nil ?_)) | (refine k_run ?_; (first | refine r_seq ?_ | refine r_region ?_ | refine r_false rfl ?_ | refine r_skip ?_ | refine r_if rfl (fun _ => ?_) (fun _ => ?_))))
        · rename_i h; omega
        · refine r_ret Tryz.func23 _ (res_one rfl rfl) ⟨?_, rfl⟩
          simp only [commonOf, hta, htb, hl, Bool.and_self, if_true]
    | false =>
      rw [htb] at tB
      repeat' (first | (refine k_op1 ?_; (first | refine o_sv rfl (by decide) ?_ | (refine k_load ?_; (refine o_val (v_loada rfl rfl rfl) rfl rfl (by decide) ?_)) | (refine k_call ?_; (first | refine o_fn tA rfl (by decide) ?_ | refine o_fn tB rfl (by decide) ?_)) | (refine k_box ?_; (refine o_does (d_box_d rfl rfl (by decide)) ?_)))) | (refine k_ops ?_; (first | refine o_go (by first | exact .inl rfl | exact .inr ⟨_, _, _, rfl, rfl, rfl⟩) ?_ | refine o_nil ?_)) | (refine k_run ?_; (first | refine r_seq ?_ | refine r_region ?_ | refine r_true rfl ?_)))
      refine r_ret Tryz.func23 _ (res_one rfl rfl) ⟨?_, rfl⟩
      simp [commonOf, htb]
  | false =>
    rw [hta] at tA
    repeat' (first | (refine k_op1 ?_; (first | refine o_sv rfl (by decide) ?_ | (refine k_load ?_; (refine o_val (v_loada rfl rfl rfl) rfl rfl (by decide) ?_)) | (refine k_call ?_; (refine o_fn tA rfl (by decide) ?_)) | (refine k_box ?_; (refine o_does (d_box_d rfl rfl (by decide)) ?_)))) | (refine k_ops ?_; (first | refine o_go (by first | exact .inl rfl | exact .inr ⟨_, _, _, rfl, rfl, rfl⟩) ?_ | refine o_nil ?_ | refine o_no rfl rfl (by decide) ?_)) | (refine k_run ?_; (first | refine r_seq ?_ | refine r_region ?_ | refine r_true rfl ?_)))
    refine r_ret Tryz.func23 _ (res_one rfl rfl) ⟨?_, rfl⟩
    simp [commonOf, hta]

end Go.Proofs.YtonhfccmeammbaaGreatDoor
namespace Go.Proofs.YtonhfccmeammbaaGreatDoor
open Go.Ab
set_option maxHeartbeats 2000000
attribute [local irreducible] Run Ops Op1 Does Val Tr PureF Eff1

def routeGo (c : Corpus) (b : Int) : List Int → Option (List Str)
  | [] => none
  | x :: r => if x = b then some [] else (routeGo c b r).map (relAt c x :: ·)
def routeOf (c : Corpus) (a b : Int) : Option (List Str) := if token c a && token c b then routeGo c b (a :: up c a) else none
def routeV (r : Option (List Str)) : PV := .tup [.d (strs (r.getD [])), B r.isSome]
theorem routeGo_len (c : Corpus) (b : Int) : ∀ (l : List Int) (r : List Str), routeGo c b l = some r → r.length ≤ l.length
  | [], r, h => by simp [routeGo] at h
  | x :: l, r, h => by
    simp only [routeGo] at h
    split at h
    · simp at h; subst h; simp
    · cases hq : routeGo c b l with
      | none => rw [hq] at h; simp at h
      | some q => rw [hq] at h; simp at h; subst h; have := routeGo_len c b l q hq; simp; omega
def way (c : Corpus) (a : Int) : List Int := a :: up c a
theorem way_len (c : Corpus) (a : Int) : (way c a).length ≤ c.tokens.length + 1 := by have := up_len c a; simp [way]; omega
theorem up_token {c : Corpus} (h : Wf c) : ∀ (n : Nat) (a : Int), (up c a).length = n → ∀ x ∈ up c a, token c x = true := by
  intro n
  induction n with
  | zero => intro a ha x hx; simp at ha; simp [ha] at hx
  | succ n ih =>
    intro a ha x hx
    by_cases ht : token c a = true
    · rw [up_step h ht] at ha hx
      split at ha
      · simp at ha
      · rename_i hne
        rw [if_neg hne] at hx
        simp only [List.mem_cons] at hx
        rcases hx with rfl | hx
        · exact head_token h ((token_iff c a).1 ht).1 hne
        · exact ih _ (by simpa using ha) x hx
    · rw [up_none (by simpa using ht)] at hx; simp at hx
theorem way_token {c : Corpus} (h : Wf c) {a : Int} (ha : token c a = true) : ∀ x ∈ way c a, token c x = true := by
  intro x hx
  simp only [way, List.mem_cons] at hx
  rcases hx with rfl | hx
  · exact ha
  · exact up_token h _ a rfl x hx

theorem routeGo_at (c : Corpus) (b : Int) : ∀ (l : List Int) (k : Nat), (∀ j < k, l[j]? ≠ some b) → l[k]? = some b → routeGo c b l = some ((l.take k).map (relAt c))
  | [], k, _, h => by simp at h
  | x :: l, 0, _, h => by simp at h; simp [routeGo, h]
  | x :: l, k + 1, h0, h => by
    have hx : x ≠ b := fun e => h0 0 (by omega) (by simp [e])
    simp only [routeGo, if_neg hx]
    rw [routeGo_at c b l k (fun j hj => by have := h0 (j + 1) (by omega); simpa using this) (by simpa using h)]
    simp
theorem routeGo_none (c : Corpus) (b : Int) : ∀ (l : List Int), (∀ j < l.length, l[j]? ≠ some b) → routeGo c b l = none
  | [], _ => rfl
  | x :: l, h0 => by
    have hx : x ≠ b := fun e => h0 0 (by simp) (by simp [e])
    simp only [routeGo, if_neg hx]
    rw [routeGo_none c b l (fun j hj => by have := h0 (j + 1) (by simpa using hj); simpa using this)]
    rfl

theorem route_s {c : Corpus} (hw : Wf c) (a b : Int) : PureF Tryz.prog 22 [c.d, I .i64 a, I .i64 b] (routeV (routeOf c a b)) := by
  refine pure_of fun H => ?_
  refine spec_of Tryz.func22 (by kernel_rfl) rfl (by simp) ?_
  dsimp only [Tryz.f22]
  have tA := token_s c a
  have tB := token_s c b
  have htok := hw.tok
  cases hta : token c a with
  | true =>
    rw [hta] at tA
    cases htb : token c b with
    | true =>
      rw [htb] at tB
      have hup := up_len c a
      have hwl := way_len c a
      repeat' (first | (refine k_op1 ?_; (first | refine o_nil_row rfl rfl rfl (by decide) ?_ | refine o_sv rfl (by decide) ?_ | (refine k_load ?_; (refine o_val (v_loada rfl rfl rfl) rfl rfl (by decide) ?_)) | (refine k_blt ?_; (first | refine o_apps rfl rfl rfl rfl rfl (fun _ => rfl) rfl rfl (by decide) (by simp; omega) ?_ | refine o_val (v_lenrm rfl) rfl rfl (by decide) ?_)) | (refine k_call ?_; (first | refine o_fn tA rfl (by decide) ?_ | refine o_fn tB rfl (by decide) ?_ | refine o_fn (up_s _ _ (by omega)) rfl (by decide) ?_)) | (refine k_box ?_; (refine o_does (d_box_d rfl rfl (by decide)) ?_)) | (refine k_lit ?_; (refine o_lito (ys := [a].map fun x => [Dint x]) rfl rfl rfl rfl rfl rfl rfl rfl rfl (by decide) ?_)))) | (refine k_ops ?_; (first | refine o_go (by first | exact .inl rfl | exact .inr ⟨_, _, _, rfl, rfl, rfl⟩) ?_ | refine o_nil ?_)) | (refine k_run ?_; (first | refine r_seq ?_ | refine r_region ?_ | refine r_false rfl ?_ | refine r_skip ?_ | refine r_block ?_)))
      refine r_freeze 28 rfl ?_
      refine r_loop ?_
      refine r_less (r_inv (fun k : Nat => ⟨54, [(2, I .i64 b), (3, .ptr (0, 3) 0), (8, .ref (0, 8)), (29, .d (ints (way c a))), (30, I .i64 (way c a).length), (31, I .i64 k)], [(8, .row 9 1 ((((way c a).take k).map (relAt c)).map fun x => [Dstr x])), (3, .box (c.cs.map .d))], H⟩)
        (fun k => k ≤ (way c a).length ∧ ∀ j < k, (way c a)[j]? ≠ some b) (fun k => (way c a).length - k) ?_ 0 ⟨by omega, by simp⟩) rfl rfl
      intro k ⟨hk, hno⟩ ih
      by_cases hlt : k < (way c a).length
      · obtain ⟨x, hx⟩ : ∃ x, (way c a)[k]? = some x := ⟨_, List.getElem?_eq_getElem hlt⟩
        have hxt := (token_iff c x).1 (way_token hw hta x (List.mem_of_getElem? hx))
        have hnext : (way c a).take (k + 1) = (way c a).take k ++ [x] := by rw [List.take_add_one, hx]; rfl
        have hstep : x ≠ b → ∀ j < k + 1, (way c a)[j]? ≠ some b := fun hxb j hj => by
          by_cases e : j = k
          · subst e; rw [hx]; simpa using hxb
          · exact hno j (by omega)
        have htake : (((way c a).take k).map (relAt c)).length < 137438953472 := by simp; omega
        have hfin : x = b → routeOf c a b = some (((way c a).take k).map (relAt c)) := fun e => by
          rw [routeOf, hta, htb]; exact routeGo_at c b (way c a) k hno (by rw [hx, e])
        cases hr : c.rels[x.toNat]? with
        | none =>
          have hxr : ¬ x < c.rels.length := by rw [List.getElem?_eq_none_iff] at hr; omega
          have hrel : relAt c x = ⟨#[]⟩ := by simp [relAt, hr]
          repeat' (first | (refine k_op1 ?_; (first | refine o_sv rfl (by decide) ?_ | (refine k_load ?_; (first | refine o_val (v_load rfl rfl rfl rfl) rfl rfl (by decide) ?_ | refine o_val (v_loade rfl rfl rfl) rfl rfl (by decide) ?_)) | (refine k_field ?_; (refine o_val (v_field rfl rfl) rfl rfl (by decide) ?_)) | (refine k_index ?_; (refine o_val (v_index rfl (by omega) (idx hx) rfl) rfl rfl (by decide) ?_)) | (refine k_bin ?_; (refine o_val (v_add (wi64 (by omega) (by omega))) rfl rfl (by decide) ?_)) | (refine k_blt ?_; (first | refine o_val (v_lenm rfl) rfl rfl (by decide) ?_ | refine o_app1 rfl rfl _ rfl rfl rfl rfl rfl rfl rfl (by decide) (by omega) ?_)) | (refine k_lit ?_; (refine o_lit rfl rfl rfl rfl rfl rfl rfl rfl (by decide) ?_)))) | (refine k_ops ?_; (first | refine o_go (by first | exact .inl rfl | exact .inr ⟨_, _, _, rfl, rfl, rfl⟩) ?_ | refine o_nil ?_)) | (refine k_run ?_; (first | refine r_seq ?_ | refine r_region ?_ | refine r_skip ?_ | refine r_block ?_ | refine r_inBlock ?_ | refine r_if rfl (fun _ => ?_) (fun _ => ?_) | refine r_exit rfl ?_)))
          · rename_i h1 h2
            refine r_freeze 8 rfl ?_
            refine r_ret Tryz.func22 _ (res_two rfl rfl rfl) ⟨?_, rfl⟩
            rw [hfin h2]; rfl
          · rename_i h1 h2 h3; omega
          · rename_i h1 h2 h3
            refine r_ren 52 8 rfl rfl ?_
            have e : ((way c a).take k).map (relAt c) ++ [⟨#[]⟩] = ((way c a).take (k + 1)).map (relAt c) := by rw [hnext]; simp [hrel]
            rw [e]
            exact r_less (ih (k + 1) ⟨by omega, hstep h2⟩ (by omega)) rfl rfl
          · rename_i h1; omega
        | some r =>
          have hxr : x < c.rels.length := by have := (List.getElem?_eq_some_iff.1 hr).1; omega
          have hrel : relAt c x = r := by simp [relAt, hr]
          repeat' (first | (refine k_op1 ?_; (first | refine o_sv rfl (by decide) ?_ | (refine k_load ?_; (first | refine o_val (v_load rfl rfl rfl rfl) rfl rfl (by decide) ?_ | refine o_val (v_loade rfl rfl rfl) rfl rfl (by decide) ?_)) | (refine k_field ?_; (refine o_val (v_field rfl rfl) rfl rfl (by decide) ?_)) | (refine k_index ?_; (first | refine o_val (v_index rfl (by omega) (idx hx) rfl) rfl rfl (by decide) ?_ | refine o_val (v_index rfl hxt.1 (idxi hr) rfl) rfl rfl (by decide) ?_)) | (refine k_bin ?_; (refine o_val (v_add (wi64 (by omega) (by omega))) rfl rfl (by decide) ?_)) | (refine k_blt ?_; (first | refine o_val (v_lenm rfl) rfl rfl (by decide) ?_ | refine o_app1 rfl rfl _ rfl rfl rfl rfl rfl rfl rfl (by decide) (by omega) ?_)) | (refine k_lit ?_; (refine o_lit rfl rfl rfl rfl rfl rfl rfl rfl (by decide) ?_)))) | (refine k_ops ?_; (first | refine o_go (by first | exact .inl rfl | exact .inr ⟨_, _, _, rfl, rfl, rfl⟩) ?_ | refine o_nil ?_)) | (refine k_run ?_; (first | refine r_seq ?_ | refine r_region ?_ | refine r_skip ?_ | refine r_block ?_ | refine r_inBlock ?_ | refine r_if rfl (fun _ => ?_) (fun _ => ?_) | refine r_exit rfl ?_)))
          · rename_i h1 h2
            refine r_freeze 8 rfl ?_
            refine r_ret Tryz.func22 _ (res_two rfl rfl rfl) ⟨?_, rfl⟩
            rw [hfin h2]; rfl
          · rename_i h1 h2 h3
            refine r_ren 52 8 rfl rfl ?_
            have e : ((way c a).take k).map (relAt c) ++ [r] = ((way c a).take (k + 1)).map (relAt c) := by rw [hnext]; simp [hrel]
            rw [e]
            exact r_less (ih (k + 1) ⟨by omega, hstep h2⟩ (by omega)) rfl rfl
          · rename_i h1 h2 h3; omega
          · rename_i h1; omega
      · repeat' (first | (refine k_op1 ?_; (refine o_sv rfl (by decide) ?_)) | (refine k_ops ?_; (first | refine o_go (by first | exact .inl rfl | exact .inr ⟨_, _, _, rfl, rfl, rfl⟩) ?_ | refine o_nil ?_)) | (refine k_run ?_; (first | refine r_seq ?_ | refine r_region ?_ | refine r_skip ?_ | refine r_block ?_ | refine r_if rfl (fun _ => ?_) (fun _ => ?_) | refine r_exit rfl ?_)))
        · rename_i h; omega
        · refine r_nil 6 rfl ?_
          refine r_ret Tryz.func22 _ (res_two rfl rfl rfl) ⟨?_, rfl⟩
          have e : routeOf c a b = none := by rw [routeOf, hta, htb]; exact routeGo_none c b (way c a) (fun j hj => hno j (by omega))
          rw [e]; rfl
    | false =>
      rw [htb] at tB
      repeat' (first | (refine k_op1 ?_; (first | refine o_sv rfl (by decide) ?_ | (refine k_load ?_; (refine o_val (v_loada rfl rfl rfl) rfl rfl (by decide) ?_)) | (refine k_call ?_; (first | refine o_fn tA rfl (by decide) ?_ | refine o_fn tB rfl (by decide) ?_)) | (refine k_box ?_; (refine o_does (d_box_d rfl rfl (by decide)) ?_)))) | (refine k_ops ?_; (first | refine o_go (by first | exact .inl rfl | exact .inr ⟨_, _, _, rfl, rfl, rfl⟩) ?_ | refine o_nil ?_)) | (refine k_run ?_; (first | refine r_seq ?_ | refine r_region ?_ | refine r_true rfl ?_)))
      refine r_nil 6 rfl ?_
      refine r_ret Tryz.func22 _ (res_two rfl rfl rfl) ⟨?_, rfl⟩
      simp [routeOf, htb, routeV, strs]
  | false =>
    rw [hta] at tA
    repeat' (first | (refine k_op1 ?_; (first | refine o_sv rfl (by decide) ?_ | (refine k_load ?_; (refine o_val (v_loada rfl rfl rfl) rfl rfl (by decide) ?_)) | (refine k_call ?_; (refine o_fn tA rfl (by decide) ?_)) | (refine k_box ?_; (refine o_does (d_box_d rfl rfl (by decide)) ?_)))) | (refine k_ops ?_; (first | refine o_go (by first | exact .inl rfl | exact .inr ⟨_, _, _, rfl, rfl, rfl⟩) ?_ | refine o_nil ?_ | refine o_no rfl rfl (by decide) ?_)) | (refine k_run ?_; (first | refine r_seq ?_ | refine r_region ?_ | refine r_true rfl ?_)))
    refine r_nil 6 rfl ?_
    refine r_ret Tryz.func22 _ (res_two rfl rfl rfl) ⟨?_, rfl⟩
    simp [routeOf, hta, routeV, strs]
end Go.Proofs.YtonhfccmeammbaaGreatDoor
namespace Go.Proofs.YtonhfccmeammbaaGreatDoor
open Go.Ab
set_option maxHeartbeats 2000000
attribute [local irreducible] Run Ops Op1 Does Val Tr PureF Eff1

theorem routeGo_some (c : Corpus) (b : Int) : ∀ (l : List Int), b ∈ l → ∃ r, routeGo c b l = some r
  | [], h => by simp at h
  | x :: l, h => by
    by_cases e : x = b
    · exact ⟨[], by simp [routeGo, e]⟩
    · simp only [List.mem_cons] at h
      rcases h with h | h
      · exact absurd h.symm e
      · obtain ⟨r, hr⟩ := routeGo_some c b l h
        exact ⟨relAt c x :: r, by simp [routeGo, e, hr]⟩
theorem routeGo_mem (c : Corpus) (b : Int) : ∀ (l : List Int) (r : List Str), routeGo c b l = some r → b ∈ l
  | [], r, h => by simp [routeGo] at h
  | x :: l, r, h => by
    by_cases e : x = b
    · simp [e]
    · simp only [routeGo, if_neg e] at h
      cases hq : routeGo c b l with
      | none => rw [hq] at h; simp at h
      | some q => exact List.mem_cons_of_mem _ (routeGo_mem c b l q hq)

end Go.Proofs.YtonhfccmeammbaaGreatDoor
namespace Go.Proofs.YtonhfccmeammbaaGreatDoor
open Go.Ab
set_option maxHeartbeats 2000000
attribute [local irreducible] Run Ops Op1 Does Val Tr PureF Eff1

def meetOf (c : Corpus) (a b : Int) : Int := if token c a && token c b then ((way c a).find? (inB (way c b))).getD (-1) else -1
theorem find_at {α : Type} (p : α → Bool) : ∀ (l : List α) (k : Nat) (x : α), (∀ j < k, ∀ y, l[j]? = some y → p y = false) → l[k]? = some x → p x = true → l.find? p = some x
  | [], k, x, _, h, _ => by simp at h
  | y :: l, 0, x, _, h, hp => by simp at h; subst h; simp [List.find?, hp]
  | y :: l, k + 1, x, h0, h, hp => by
    have := h0 0 (by omega) y (by simp)
    simp only [List.find?, this]
    exact find_at p l k x (fun j hj z hz => h0 (j + 1) (by omega) z (by simpa using hz)) (by simpa using h) hp
theorem find_no {α : Type} (p : α → Bool) (l : List α) (h : ∀ j < l.length, ∀ y, l[j]? = some y → p y = false) : l.find? p = none := by
  rw [List.find?_eq_none]
  intro x hx
  obtain ⟨j, hj⟩ := List.getElem?_of_mem hx
  simp [h j (by have := (List.getElem?_eq_some_iff.1 hj).1; omega) x hj]

theorem meet_s {c : Corpus} (hw : Wf c) (a b : Int) : PureF Tryz.prog 45 [c.d, I .i64 a, I .i64 b] (I .i64 (meetOf c a b)) := by
  refine pure_of fun H => ?_
  refine spec_of Tryz.func45 (by kernel_rfl) rfl (by simp) ?_
  dsimp only [Tryz.f45]
  have tA := token_s c a
  have tB := token_s c b
  have htok := hw.tok
  cases hta : token c a with
  | true =>
    rw [hta] at tA
    cases htb : token c b with
    | true =>
      rw [htb] at tB
      have hua := up_len c a
      have hub := up_len c b
      have hwa := way_len c a
      have hwb := way_len c b
      have hm : meetOf c a b = ((way c a).find? (inB (way c b))).getD (-1) := by rw [meetOf, hta, htb]; rfl
      repeat' (first | (refine k_op1 ?_; (first | refine o_sv rfl (by decide) ?_ | (refine k_load ?_; (refine o_val (v_loada rfl rfl rfl) rfl rfl (by decide) ?_)) | (refine k_blt ?_; (first | refine o_apps rfl rfl rfl rfl rfl (fun _ => rfl) rfl rfl (by decide) (by simp; omega) ?_ | refine o_val (v_lenrm rfl) rfl rfl (by decide) ?_)) | (refine k_call ?_; (first | refine o_fn tA rfl (by decide) ?_ | refine o_fn tB rfl (by decide) ?_ | refine o_fn (up_s _ _ (by omega)) rfl (by decide) ?_)) | (refine k_box ?_; (refine o_does (d_box_d rfl rfl (by decide)) ?_)) | (refine k_lit ?_; (first | refine o_lito (ys := [a].map fun x => [Dint x]) rfl rfl rfl rfl rfl rfl rfl rfl rfl (by decide) ?_ | refine o_lito (ys := [b].map fun x => [Dint x]) rfl rfl rfl rfl rfl rfl rfl rfl rfl (by decide) ?_)))) | (refine k_ops ?_; (first | refine o_go (by first | exact .inl rfl | exact .inr ⟨_, _, _, rfl, rfl, rfl⟩) ?_ | refine o_nil ?_)) | (refine k_run ?_; (first | refine r_seq ?_ | refine r_region ?_ | refine r_false rfl ?_ | refine r_skip ?_ | refine r_block ?_ | refine r_scope ?_ | refine r_label ?_)))
      refine r_freeze 28 rfl ?_
      refine r_freeze 34 rfl ?_
      refine r_loop ?_
      refine r_less (r_inv (fun k : Nat => ⟨53, [(7, I .i64 (-1)), (8, .d (ints (way c b))), (34, .d (ints (way c a))), (35, I .i64 (way c a).length), (36, I .i64 k)], [], H⟩)
        (fun k => k ≤ (way c a).length ∧ ∀ j < k, ∀ y, (way c a)[j]? = some y → inB (way c b) y = false) (fun k => (way c a).length - k) ?_ 0 ⟨by omega, by simp⟩) rfl rfl
      intro k ⟨hk, hno⟩ ih
      by_cases hlt : k < (way c a).length
      · obtain ⟨x, hx⟩ : ∃ x, (way c a)[k]? = some x := ⟨_, List.getElem?_eq_getElem hlt⟩
        repeat' (first | (refine k_op1 ?_; (first | refine o_sv rfl (by decide) ?_ | (refine k_load ?_; (refine o_val (v_loade rfl rfl rfl) rfl rfl (by decide) ?_)) | (refine k_index ?_; (refine o_val (v_index rfl (by omega) (idx hx) rfl) rfl rfl (by decide) ?_)) | (refine k_blt ?_; (refine o_val (v_lenm rfl) rfl rfl (by decide) ?_)))) | (refine k_ops ?_; (first | refine o_go (by first | exact .inl rfl | exact .inr ⟨_, _, _, rfl, rfl, rfl⟩) ?_ | refine o_nil ?_)) | (refine k_run ?_; (first | refine r_seq ?_ | refine r_region ?_ | refine r_skip ?_ | refine r_block ?_ | refine r_if rfl (fun _ => ?_) (fun _ => ?_) | refine r_exit rfl ?_)))
        · refine r_loop ?_
          refine r_less (r_inv (fun q : Nat => ⟨53, [(7, I .i64 (-1)), (8, .d (ints (way c b))), (10, I .i64 x), (34, .d (ints (way c a))), (35, I .i64 (way c a).length), (36, I .i64 k), (40, .d (ints (way c b))), (41, I .i64 (way c b).length), (42, I .i64 q)], [], H⟩)
            (fun q => q ≤ (way c b).length ∧ ∀ j < q, (way c b)[j]? ≠ some x) (fun q => (way c b).length - q) ?_ 0 ⟨by omega, by simp⟩) rfl rfl
          intro q ⟨hq, hnq⟩ ih2
          by_cases hlq : q < (way c b).length
          · obtain ⟨y, hy⟩ : ∃ y, (way c b)[q]? = some y := ⟨_, List.getElem?_eq_getElem hlq⟩
            repeat' (first | (refine k_op1 ?_; (first | refine o_sv rfl (by decide) ?_ | (refine k_load ?_; (refine o_val (v_loade rfl rfl rfl) rfl rfl (by decide) ?_)) | (refine k_index ?_; (refine o_val (v_index rfl (by omega) (idx hy) rfl) rfl rfl (by decide) ?_)) | (refine k_bin ?_; (refine o_val (v_add (wi64 (by omega) (by omega))) rfl rfl (by decide) ?_)))) | (refine k_ops ?_; (first | refine o_go (by first | exact .inl rfl | exact .inr ⟨_, _, _, rfl, rfl, rfl⟩) ?_ | refine o_nil ?_)) | (refine k_run ?_; (first | refine r_seq ?_ | refine r_region ?_ | refine r_skip ?_ | refine r_block ?_ | refine r_inBlock ?_ | refine r_if rfl (fun _ => ?_) (fun _ => ?_) | refine r_exit rfl ?_)))
            · rename_i h1 h2 h3
              refine r_ret Tryz.func45 _ (res_one rfl rfl) ⟨?_, rfl⟩
              have hxi : inB (way c b) x = true := by subst h3; simp [inB, List.mem_of_getElem? hy]
              rw [hm, find_at _ _ k x hno hx hxi]; rfl
            · rename_i h1 h2 h3
              refine r_less (ih2 (q + 1) ⟨by omega, fun j hj => ?_⟩ (by omega)) rfl rfl
              by_cases e : j = q
              · subst e; rw [hy]; simpa using fun e => h3 e.symm
              · exact hnq j (by omega)
            · rename_i h1 h2; omega
          · repeat' (first | (refine k_op1 ?_; (first | refine o_sv rfl (by decide) ?_ | (refine k_bin ?_; (refine o_val (v_add (wi64 (by omega) (by omega))) rfl rfl (by decide) ?_)))) | (refine k_ops ?_; (first | refine o_go (by first | exact .inl rfl | exact .inr ⟨_, _, _, rfl, rfl, rfl⟩) ?_ | refine o_nil ?_)) | (refine k_run ?_; (first | refine r_seq ?_ | refine r_region ?_ | refine r_skip ?_ | refine r_block ?_ | refine r_inBlock ?_ | refine r_if rfl (fun _ => ?_) (fun _ => ?_) | refine r_exit rfl ?_)))
            · rename_i h1 h2; omega
            · have hxi : inB (way c b) x = false := by
                have : x ∉ way c b := fun hmm => by
                  obtain ⟨j, hj⟩ := List.getElem?_of_mem hmm
                  exact hnq j (by have := (List.getElem?_eq_some_iff.1 hj).1; omega) hj
                simp [inB, this]
              refine r_less (ih (k + 1) ⟨by omega, fun j hj y hy => ?_⟩ (by omega)) rfl rfl
              by_cases e : j = k
              · subst e; rw [hx] at hy; simp at hy; subst hy; exact hxi
              · exact hno j (by omega) y hy
        · rename_i h; omega
      · repeat' (first | (refine k_op1 ?_; (refine o_sv rfl (by decide) ?_)) | (refine k_ops ?_; (first | refine o_go (by first | exact .inl rfl | exact .inr ⟨_, _, _, rfl, rfl, rfl⟩) ?_ | refine o_nil ?_)) | (refine k_run ?_; (first | refine r_seq ?_ | refine r_region ?_ | refine r_skip ?_ | refine r_block ?_ | refine r_if rfl (fun _ => ?_) (fun _ => ?_) | refine r_exit rfl ?_)))
        · rename_i h; omega
        · refine r_ret Tryz.func45 _ (res_one rfl rfl) ⟨?_, rfl⟩
          rw [hm, find_no _ _ (fun j hj => hno j (by omega))]; rfl
    | false =>
      rw [htb] at tB
      repeat' (first | (refine k_op1 ?_; (first | refine o_sv rfl (by decide) ?_ | (refine k_load ?_; (refine o_val (v_loada rfl rfl rfl) rfl rfl (by decide) ?_)) | (refine k_call ?_; (first | refine o_fn tA rfl (by decide) ?_ | refine o_fn tB rfl (by decide) ?_)) | (refine k_box ?_; (refine o_does (d_box_d rfl rfl (by decide)) ?_)))) | (refine k_ops ?_; (first | refine o_go (by first | exact .inl rfl | exact .inr ⟨_, _, _, rfl, rfl, rfl⟩) ?_ | refine o_nil ?_)) | (refine k_run ?_; (first | refine r_seq ?_ | refine r_region ?_ | refine r_true rfl ?_ | refine r_scope ?_)))
      refine r_ret Tryz.func45 _ (res_one rfl rfl) ⟨?_, rfl⟩
      simp [meetOf, htb]
  | false =>
    rw [hta] at tA
    repeat' (first | (refine k_op1 ?_; (first | refine o_sv rfl (by decide) ?_ | (refine k_load ?_; (refine o_val (v_loada rfl rfl rfl) rfl rfl (by decide) ?_)) | (refine k_call ?_; (refine o_fn tA rfl (by decide) ?_)) | (refine k_box ?_; (refine o_does (d_box_d rfl rfl (by decide)) ?_)))) | (refine k_ops ?_; (first | refine o_go (by first | exact .inl rfl | exact .inr ⟨_, _, _, rfl, rfl, rfl⟩) ?_ | refine o_nil ?_ | refine o_no rfl rfl (by decide) ?_)) | (refine k_run ?_; (first | refine r_seq ?_ | refine r_region ?_ | refine r_true rfl ?_ | refine r_scope ?_)))
    refine r_ret Tryz.func45 _ (res_one rfl rfl) ⟨?_, rfl⟩
    simp [meetOf, hta]
end Go.Proofs.YtonhfccmeammbaaGreatDoor
namespace Go.Proofs.YtonhfccmeammbaaGreatDoor
open Go.Ab
set_option maxHeartbeats 2000000
attribute [local irreducible] Run Ops Op1 Does Val Tr PureF Eff1

/-- the tape: its numbers and how many are used -/
def tapeB (l : List Int) (k : Nat) : Blk := .box [.d (ints l), I .i64 k]

theorem new_s (l : List Int) (hl : l.length ≤ 9223372036854775807) : ∀ H, Ab.Spec Tryz.prog 9 [.d (ints l)] H (fun r H' => r = .new (tapeB (l.take 120) 0) ∧ H' = H) := by
  intro H
  refine spec_of Tryz.func9 (by kernel_rfl) rfl (by simp) ?_
  dsimp only [Tryz.f9]
  by_cases h : l.length ≤ 120
  · repeat' (first | (refine k_op1 ?_; (first | refine o_sv rfl (by decide) ?_ | (refine k_blt ?_; (refine o_val (v_lenm rfl) rfl rfl (by decide) ?_)) | (refine k_box ?_; (refine o_does (d_box_d rfl rfl (by decide)) ?_)) | (refine k_build ?_; (refine o_build rfl rfl rfl rfl rfl rfl rfl (by decide) ?_)))) | (refine k_ops ?_; (first | refine o_go (by first | exact .inl rfl | exact .inr ⟨_, _, _, rfl, rfl, rfl⟩) ?_ | refine o_nil ?_)) | (refine k_run ?_; (first | refine r_seq ?_ | refine r_region ?_ | refine r_skip ?_ | refine r_if rfl (fun _ => ?_) (fun _ => ?_))))
    · rename_i h2; omega
    · refine r_ret Tryz.func9 _ (res_new (qs := [.d (ints l), I .i64 0]) rfl rfl rfl rfl) ⟨?_, rfl⟩
      rw [List.take_of_length_le h]; rfl
  · repeat' (first | (refine k_op1 ?_; (first | refine o_sv rfl (by decide) ?_ | (refine k_slice ?_; (refine o_val (v_slicetm rfl (by omega) (by omega) (fun _ => rfl)) rfl rfl (by decide) ?_)) | (refine k_blt ?_; (refine o_val (v_lenm rfl) rfl rfl (by decide) ?_)) | (refine k_box ?_; (refine o_does (d_box_d rfl rfl (by decide)) ?_)) | (refine k_build ?_; (refine o_build rfl rfl rfl rfl rfl rfl rfl (by decide) ?_)))) | (refine k_ops ?_; (first | refine o_go (by first | exact .inl rfl | exact .inr ⟨_, _, _, rfl, rfl, rfl⟩) ?_ | refine o_nil ?_)) | (refine k_run ?_; (first | refine r_seq ?_ | refine r_region ?_ | refine r_skip ?_ | refine r_if rfl (fun _ => ?_) (fun _ => ?_))))
    · refine r_ret Tryz.func9 _ (res_new (qs := [.d (ints (l.take 120)), I .i64 0]) rfl rfl rfl rfl) ⟨?_, rfl⟩
      rfl
    · rename_i h2; omega

def tnum (l : List Int) (k : Nat) (n : Int) : Int := match l[k]? with
  | some x => modv x n
  | none => 0
def tnext (l : List Int) (k : Nat) : Nat := if k < l.length then k + 1 else k

theorem next_s (l : List Int) (k : Nat) (n : Int) (dd m : Nat) (hl : l.length ≤ 120) (hk : k ≤ 120) (hn : -9223372036854775808 ≤ n ∧ n ≤ 9223372036854775807) :
    Eff1 Tryz.prog 26 [.ptr (dd, m) 0, I .i64 n] [((dd, m), tapeB l k)] [((dd, m), tapeB l (tnext l k))] (I .i64 (tnum l k n)) := by
  refine eff_of fun H hH => ?_
  have hH0 := hH ((dd, m), tapeB l k) (by simp)
  refine spec_of Tryz.func26 (by kernel_rfl) rfl (by simp) ?_
  dsimp only [Tryz.f26]
  repeat' (first | (refine k_op1 ?_; (refine o_sv rfl (by decide) ?_)) | (refine k_ops ?_; (first | refine o_go (by first | exact .inl rfl | exact .inr ⟨_, _, _, rfl, rfl, rfl⟩) ?_ | refine o_nil ?_)) | (refine k_run ?_; (first | refine r_seq ?_ | refine r_region ?_ | refine r_tr ?_)) | (refine k_tr ?_; (first | refine t_sv rfl (by first | exact rfl | exact ⟨_, rfl, rfl, rfl⟩) (by decide) ?_ | (refine kt_field ?_; (refine t_val (v_field rfl rfl) (by first | exact rfl | exact ⟨_, rfl, rfl, rfl⟩) rfl rfl (by decide) ?_)))))
  repeat' (first | (refine k_op1 ?_; (first | refine o_sv rfl (by decide) ?_ | (refine k_field ?_; (refine o_val (v_field rfl rfl) rfl rfl (by decide) ?_)))) | (refine k_ops ?_; (first | refine o_go (by first | exact .inl rfl | exact .inr ⟨_, _, _, rfl, rfl, rfl⟩) ?_ | refine o_nil ?_)) | (refine k_run ?_; (first | refine r_seq ?_ | refine r_region ?_ | refine r_skip ?_ | refine r_if rfl (fun _ => ?_) (fun _ => ?_))) | (refine k_tr ?_; (first | (refine kt_end ?_; refine t_end mix (by kernel_rfl) ?_) | refine t_sv rfl (by first | exact rfl | exact ⟨_, rfl, rfl, rfl⟩) (by decide) ?_ | (refine kt_load ?_; (refine t_val (v_load (b := tapeB l k) rfl rfl rfl rfl) (by first | exact rfl | exact ⟨_, rfl, rfl, rfl⟩) rfl (bk1 hH0) (by decide) ?_)) | (refine kt_field ?_; (refine t_val (v_field rfl rfl) (by first | exact rfl | exact ⟨_, rfl, rfl, rfl⟩) rfl rfl (by decide) ?_)) | (refine kt_blt ?_; (refine t_val (v_lenm rfl) (by first | exact rfl | exact ⟨_, rfl, rfl, rfl⟩) rfl rfl (by decide) ?_)))))
  skip
  · rename_i hlt
    refine r_ret Tryz.func26 _ (res_one rfl rfl) ⟨?_, ?_⟩
    · simp [tnum, List.getElem?_eq_none (l := l) (i := k) (by omega)]
    · rw [tnext, if_neg (by omega)]; exact (upd_id hH0).symm
  · rename_i hlt
    obtain ⟨x, hx⟩ : ∃ x, l[k]? = some x := ⟨_, List.getElem?_eq_getElem (by omega)⟩
    repeat' (first | (refine k_op1 ?_; (first | refine o_sv rfl (by decide) ?_ | (refine k_load ?_; (refine o_val (v_load (b := tapeB l k) rfl rfl rfl rfl) rfl (bk1 hH0) (by decide) ?_)) | (refine k_field ?_; (refine o_val (v_field rfl rfl) rfl rfl (by decide) ?_)) | (refine k_bin ?_; (refine o_val (v_add (wi64 (by omega) (by omega))) rfl rfl (by decide) ?_)) | (refine k_store ?_; (refine o_storeu (raw := tapeB l k) (raw' := tapeB l (k + 1)) rfl hH0 rfl rfl rfl rfl rfl rfl ?_)))) | (refine k_ops ?_; (first | refine o_go (by first | exact .inl rfl | exact .inr ⟨_, _, _, rfl, rfl, rfl⟩) ?_ | refine o_nil ?_)) | (refine k_run ?_; (first | refine r_seq ?_ | refine r_tr ?_)) | (refine k_tr ?_; (first | refine t_sv rfl (by first | exact rfl | exact ⟨_, rfl, rfl, rfl⟩) (by decide) ?_ | (refine kt_field ?_; (refine t_val (v_field rfl rfl) (by first | exact rfl | exact ⟨_, rfl, rfl, rfl⟩) rfl rfl (by decide) ?_)))))
    have hidx : (l.map fun x => [Dint x])[(((k + 1 : Nat) : Int) - 1).toNat]? = some [Dint x] := by
      rw [show (((k + 1 : Nat) : Int) - 1).toNat = k by omega]; simp [hx]
    repeat' ((refine k_tr ?_; (first | (refine kt_end ?_; refine t_end mix (by kernel_rfl) ?_) | refine t_sv rfl (by first | exact rfl | exact ⟨_, rfl, rfl, rfl⟩) (by decide) ?_ | (refine kt_load ?_; (first | refine t_val (v_load (b := tapeB l (k + 1)) rfl rfl rfl rfl) (by first | exact rfl | exact ⟨_, rfl, rfl, rfl⟩) rfl (bk1 (upd_same H (dd, m) _)) (by decide) ?_ | refine t_val (v_loade rfl rfl rfl) (by first | exact rfl | exact ⟨_, rfl, rfl, rfl⟩) rfl rfl (by decide) ?_)) | (refine kt_field ?_; (refine t_val (v_field rfl rfl) (by first | exact rfl | exact ⟨_, rfl, rfl, rfl⟩) rfl rfl (by decide) ?_)) | (refine kt_index ?_; (refine t_val (v_index rfl (by omega) hidx rfl) (by first | exact rfl | exact ⟨_, rfl, rfl, rfl⟩) rfl rfl (by decide) ?_)) | (refine kt_bin ?_; (refine t_val (v_sub (wi64 (by omega) (by omega))) (by first | exact rfl | exact ⟨_, rfl, rfl, rfl⟩) rfl rfl (by decide) ?_)) | (refine kt_call ?_; (refine t_fn (mod_s _ _ hn) (by first | exact rfl | exact ⟨_, rfl, rfl, rfl⟩) rfl (by decide) ?_)))))
    skip
    refine r_ret Tryz.func26 _ (res_one rfl rfl) ⟨?_, ?_⟩
    · rw [tnum, hx]
    · rw [tnext, if_pos (by omega)]; rfl
end Go.Proofs.YtonhfccmeammbaaGreatDoor
namespace Go.Proofs.YtonhfccmeammbaaGreatDoor
open Go.Ab
set_option maxHeartbeats 2000000
attribute [local irreducible] Run Ops Op1 Does Val Tr PureF Eff1

def knownC : Corpus where
  attrs := [⟨⟨#[119]⟩, false⟩]
  tokens := [[⟨#[97]⟩], [⟨#[98]⟩], [⟨#[99]⟩], [⟨#[100]⟩]]
  texts := [⟨⟨#[116]⟩, 0, 4, []⟩]
  regions := []
  nodes := []
  heads := [1, -1, 1, 2]
  rels := [⟨#[120]⟩, ⟨#[]⟩, ⟨#[121]⟩, ⟨#[122]⟩]

theorem knownWf : Wf knownC := by
  refine ⟨by decide, by decide, by decide, .inr (by decide), fun i => [1, 0, 1, 2].getD i 0, fun i h hi => ?_⟩
  match i with
  | 0 => simp [knownC] at hi; subst hi; decide
  | 1 => simp [knownC] at hi; subst hi; decide
  | 2 => simp [knownC] at hi; subst hi; decide
  | 3 => simp [knownC] at hi; subst hi; decide
  | i + 4 => simp [knownC] at hi

theorem known_s : PureF Tryz.prog 24 [] (B true) := by
  refine pure_of fun H => ?_
  refine spec_of Tryz.func24 (by kernel_rfl) rfl (by simp) ?_
  dsimp only [Tryz.f24]
  have e1 : up knownC 3 = [2, 1] := by decide
  have e2 : down knownC 1 = [0, 2] := by decide
  have e3 : under knownC 2 = [2, 3] := by decide
  have e4 : meetOf knownC 0 3 = 1 := by decide
  have s1 := up_s knownC 3 (by decide)
  have s2 := down_s knownC 1 (by decide)
  have s3 := under_s knownC 2 (by decide)
  have s4 := meet_s knownWf 0 3
  rw [e1] at s1
  rw [e2] at s2
  rw [e3] at s3
  rw [e4] at s4
  have i1 := ints_s [2, 1] [2, 1] (by decide) (by decide)
  have i2 := ints_s [0, 2] [0, 2] (by decide) (by decide)
  have i3 := ints_s [2, 3] [2, 3] (by decide) (by decide)
  simp only [decide_true] at i1 i2 i3
  repeat' (first | (refine k_op1 ?_; (first | refine o_sv rfl (by decide) ?_ | (refine k_load ?_; (refine o_val (v_loadp rfl rfl rfl rfl) rfl rfl (by decide) ?_)) | (refine k_call ?_; (first | refine o_fn s1 rfl (by decide) ?_ | refine o_fn s2 rfl (by decide) ?_ | refine o_fn s3 rfl (by decide) ?_ | refine o_fn s4 rfl (by decide) ?_ | refine o_fn i1 rfl (by decide) ?_ | refine o_fn i2 rfl (by decide) ?_ | refine o_fn i3 rfl (by decide) ?_)) | (refine k_store ?_; (refine o_store0 rfl rfl rfl rfl rfl rfl ?_)) | (refine k_alloc ?_; (refine o_does (d_alloc rfl rfl (by decide)) ?_)) | (refine k_build ?_; (refine o_build rfl rfl rfl rfl rfl rfl rfl (by decide) ?_)) | (refine k_lit ?_; (refine o_lit rfl rfl rfl rfl rfl rfl rfl rfl (by decide) ?_)))) | (refine k_ops ?_; (first | refine o_go (by first | exact .inl rfl | exact .inr ⟨_, _, _, rfl, rfl, rfl⟩) ?_ | refine o_nil ?_)) | (refine k_run ?_; (first | refine r_seq ?_ | refine r_region ?_)))
  refine r_ret Tryz.func24 _ (res_one rfl rfl) ⟨by simp, rfl⟩
end Go.Proofs.YtonhfccmeammbaaGreatDoor
namespace Go.Proofs.YtonhfccmeammbaaGreatDoor
open Go.Ab
set_option maxHeartbeats 2000000
attribute [local irreducible] Run Ops Op1 Does Val Tr PureF Eff1

def wordL : List Str := [⟨#[97]⟩, ⟨#[98]⟩, ⟨#[99]⟩, ⟨#[65]⟩, ⟨#[97, 98]⟩, ⟨#[]⟩]
def tagL : List Str := [⟨#[88]⟩, ⟨#[89]⟩]
def featL : List Str := [⟨#[124]⟩, ⟨#[124, 112, 124]⟩, ⟨#[124, 112, 124, 113, 124]⟩, ⟨#[124, 113, 124]⟩]
def typeL : List Str := [⟨#[115]⟩, ⟨#[110, 112]⟩, ⟨#[116]⟩]
def atL (l : List Str) (i : Int) : Str := l.getD i.toNat ⟨#[]⟩
theorem atL_some {l : List Str} {i : Int} (h0 : 0 ≤ i) (h : i < l.length) : l[i.toNat]? = some (atL l i) := by
  have h1 : i.toNat < l.length := by omega
  rw [atL, List.getD, List.getElem?_eq_getElem h1]; rfl
def attrL : List Attr := [⟨⟨#[119, 111, 114, 100]⟩, false⟩, ⟨⟨#[116, 97, 103]⟩, false⟩, ⟨⟨#[102, 101, 97, 116]⟩, true⟩]

theorem attributes_s : PureF Tryz.prog 46 [] (.d (.slice (attrL.map Attr.cs))) := by
  refine pure_of fun H => ?_
  refine spec_of Tryz.func46 (by kernel_rfl) rfl (by simp) ?_
  dsimp only [Tryz.f46]
  repeat' (first | (refine k_op1 ?_; (first | refine o_sv rfl (by decide) ?_ | (refine k_build ?_; (refine o_build rfl rfl rfl rfl rfl rfl rfl (by decide) ?_)) | (refine k_lit ?_; (refine o_lit (ys := attrL.map Attr.cs) rfl rfl rfl rfl rfl rfl rfl rfl (by decide) ?_)))) | (refine k_ops ?_; (first | refine o_go (by first | exact .inl rfl | exact .inr ⟨_, _, _, rfl, rfl, rfl⟩) ?_ | refine o_nil ?_)) | (refine k_run ?_; (first | refine r_seq ?_ | refine r_region ?_)))
  exact r_ret Tryz.func46 _ (res_one rfl rfl) ⟨rfl, rfl⟩
theorem type_s (i : Int) : PureF Tryz.prog 28 [I .i64 i] (S (atL typeL (modv i 3))) := by
  refine pure_of fun H => ?_
  refine spec_of Tryz.func28 (by kernel_rfl) rfl (by simp) ?_
  dsimp only [Tryz.f28]
  have hm := modv_range (x := i) (n := 3) (by omega)
  have hx := atL_some (l := typeL) hm.1 hm.2
  repeat' (first | (refine k_op1 ?_; (first | refine o_sv rfl (by decide) ?_ | (refine k_load ?_; (refine o_val (v_loade rfl rfl rfl) rfl rfl (by decide) ?_)) | (refine k_index ?_; (refine o_val (v_index rfl hm.1 (idxi hx) rfl) rfl rfl (by decide) ?_)) | (refine k_call ?_; (refine o_fn (mod_s _ 3 (by decide)) rfl (by decide) ?_)) | (refine k_lit ?_; (refine o_lit (ys := typeL.map fun x => [Dstr x]) rfl rfl rfl rfl rfl rfl rfl rfl (by decide) ?_)))) | (refine k_ops ?_; (first | refine o_go (by first | exact .inl rfl | exact .inr ⟨_, _, _, rfl, rfl, rfl⟩) ?_ | refine o_nil ?_)) | (refine k_run ?_; (first | refine r_seq ?_ | refine r_region ?_)))
  exact r_ret Tryz.func28 _ (res_one rfl rfl) ⟨rfl, rfl⟩

theorem word_s {i : Int} (h0 : 0 ≤ i) (h : i < wordL.length) : PureF Tryz.prog 47 [I .i64 i] (S (atL wordL i)) := by
  refine pure_of fun H => ?_
  refine spec_of Tryz.func47 (by kernel_rfl) rfl (by simp) ?_
  dsimp only [Tryz.f47]
  have hx := atL_some (l := wordL) h0 h
  repeat' (first | (refine k_op1 ?_; (first | refine o_sv rfl (by decide) ?_ | (refine k_load ?_; (refine o_val (v_loade rfl rfl rfl) rfl rfl (by decide) ?_)) | (refine k_index ?_; (refine o_val (v_index rfl h0 (idxi hx) rfl) rfl rfl (by decide) ?_)) | (refine k_lit ?_; (refine o_lit (ys := wordL.map fun x => [Dstr x]) rfl rfl rfl rfl rfl rfl rfl rfl (by decide) ?_)))) | (refine k_ops ?_; (first | refine o_go (by first | exact .inl rfl | exact .inr ⟨_, _, _, rfl, rfl, rfl⟩) ?_ | refine o_nil ?_)) | (refine k_run ?_; (first | refine r_seq ?_ | refine r_region ?_)))
  exact r_ret Tryz.func47 _ (res_one rfl rfl) ⟨rfl, rfl⟩

theorem tag_s {i : Int} (h0 : 0 ≤ i) (h : i < tagL.length) : PureF Tryz.prog 48 [I .i64 i] (S (atL tagL i)) := by
  refine pure_of fun H => ?_
  refine spec_of Tryz.func48 (by kernel_rfl) rfl (by simp) ?_
  dsimp only [Tryz.f48]
  have hx := atL_some (l := tagL) h0 h
  repeat' (first | (refine k_op1 ?_; (first | refine o_sv rfl (by decide) ?_ | (refine k_load ?_; (refine o_val (v_loade rfl rfl rfl) rfl rfl (by decide) ?_)) | (refine k_index ?_; (refine o_val (v_index rfl h0 (idxi hx) rfl) rfl rfl (by decide) ?_)) | (refine k_lit ?_; (refine o_lit (ys := tagL.map fun x => [Dstr x]) rfl rfl rfl rfl rfl rfl rfl rfl (by decide) ?_)))) | (refine k_ops ?_; (first | refine o_go (by first | exact .inl rfl | exact .inr ⟨_, _, _, rfl, rfl, rfl⟩) ?_ | refine o_nil ?_)) | (refine k_run ?_; (first | refine r_seq ?_ | refine r_region ?_)))
  exact r_ret Tryz.func48 _ (res_one rfl rfl) ⟨rfl, rfl⟩

theorem feat_s {i : Int} (h0 : 0 ≤ i) (h : i < featL.length) : PureF Tryz.prog 49 [I .i64 i] (S (atL featL i)) := by
  refine pure_of fun H => ?_
  refine spec_of Tryz.func49 (by kernel_rfl) rfl (by simp) ?_
  dsimp only [Tryz.f49]
  have hx := atL_some (l := featL) h0 h
  repeat' (first | (refine k_op1 ?_; (first | refine o_sv rfl (by decide) ?_ | (refine k_load ?_; (refine o_val (v_loade rfl rfl rfl) rfl rfl (by decide) ?_)) | (refine k_index ?_; (refine o_val (v_index rfl h0 (idxi hx) rfl) rfl rfl (by decide) ?_)) | (refine k_lit ?_; (refine o_lit (ys := featL.map fun x => [Dstr x]) rfl rfl rfl rfl rfl rfl rfl rfl (by decide) ?_)))) | (refine k_ops ?_; (first | refine o_go (by first | exact .inl rfl | exact .inr ⟨_, _, _, rfl, rfl, rfl⟩) ?_ | refine o_nil ?_)) | (refine k_run ?_; (first | refine r_seq ?_ | refine r_region ?_)))
  exact r_ret Tryz.func49 _ (res_one rfl rfl) ⟨rfl, rfl⟩
end Go.Proofs.YtonhfccmeammbaaGreatDoor
