/- A law holds for every input; no condition. -/
import Derived.Test.YtiapeheclfkdmaaWg
set_option linter.all false
set_option linter.unusedVariables false
set_option linter.unusedSimpArgs false
namespace Go.Proofs.Ytiapeheclfkdmaa
open Go.Ab Go.Stab
set_option maxHeartbeats 20000000
set_option maxRecDepth 100000
set_option linter.unusedVariables false
set_option linter.unusedSimpArgs false
attribute [local irreducible] Run Ops Op1 Does Val Tr PureF Eff1 NF Rel EffV EffM

theorem asks_law (l : List Span) (s : Span) (hl : l.length ≤ 9223372036854775807) : PureF Try.prog 6 [.d (spans l), .d (Dsp s)] (B true) := by
  refine pure_of fun H => ?_
  refine spec_of Try.func6 (by kernel_rfl) rfl (by simp) ?_
  dsimp only [Try.f6]
  by_cases hb : 100 < l.length
  · repeat' (first | (refine k_op1 ?_; (first | refine o_sv rfl (by decide) ?_ | (refine k_blt ?_; (refine o_val (v_lenm rfl) rfl rfl (by decide) ?_)) | (refine k_box ?_; (refine o_does (d_box_d rfl rfl (by decide)) ?_)))) | (refine k_ops ?_; (first | refine o_go (by first | exact .inl rfl | exact .inr ⟨_, _, _, rfl, rfl, rfl⟩) ?_ | refine o_nil ?_)) | (refine k_run ?_; (first | refine r_seq ?_ | refine r_region ?_ | refine r_skip ?_ | refine r_if rfl (fun _ => ?_) (fun _ => ?_))))
    all_goals try (exfalso; omega)
    exact r_ret Try.func6 _ (res_one rfl rfl) ⟨rfl, rfl⟩
  by_cases hc : chk12 l = 0
  · have c1 := built_ok l (by omega) hc
    have c2 := overlap_s (X := 600) 0 l s (by omega)
    have c3 := inside_s (X := 600) 0 l s (by omega)
    have c4 := around_s (X := 600) 0 l s (by omega)
    have n1 := fnd_len l s fun _ => true
    have n2 := fnd_len l s fun t => decide (s.1 ≤ t.1) && decide (t.2 ≤ s.2)
    have n3 := fnd_len l s fun t => decide (t.1 ≤ s.1) && decide (s.2 ≤ t.2)
    rw [ask1 hc] at c2 n1
    rw [ask2 hc] at c3 n2
    rw [ask3 hc] at c4 n3
    have d1 := rask_s l s 1 (by omega) (by omega)
    have d2 := rask_s l s 2 (by omega) (by omega)
    have d3 := rask_s l s 3 (by omega) (by omega)
    have e1 := same_refl (rask l s 1) (by omega)
    have e2 := same_refl (rask l s 2) (by omega)
    have e3 := same_refl (rask l s 3) (by omega)
    repeat' (first | (refine k_op1 ?_; (first | refine o_sv rfl (by decide) ?_ | (refine k_blt ?_; (refine o_val (v_lenm rfl) rfl rfl (by decide) ?_)) | (refine k_call ?_; ((refine o_callnT rfl (c1 _) (by decide) rfl (fun r H' h => ⟨_, _, h.1, h.2, rfl, rfl, ?_⟩); refine o_renT 12 600 rfl rfl ?_))) | (refine k_box ?_; (refine o_does (d_box_d rfl rfl (by decide)) ?_)) | refine o_val (v_peq rfl) rfl rfl (by decide) ?_)) | (refine k_ops ?_; (first | refine o_go (by first | exact .inl rfl | exact .inr ⟨_, _, _, rfl, rfl, rfl⟩) ?_ | refine o_nil ?_)) | (refine k_run ?_; (first | refine r_seq ?_ | refine r_region ?_ | refine r_false rfl ?_ | refine r_skip ?_ | refine r_tr ?_ | refine r_if rfl (fun _ => ?_) (fun _ => ?_))) | (refine k_tr ?_; (first | (refine kt_end ?_; refine t_end mix (by kernel_rfl) ?_) | refine t_sv rfl (by first | exact rfl | exact ⟨_, rfl, rfl, rfl⟩) (by decide) ?_ | (refine kt_load ?_; (refine t_val (v_loadp rfl rfl rfl rfl) (by first | exact rfl | exact ⟨_, rfl, rfl, rfl⟩) rfl rfl (by decide) ?_)) | (refine kt_call ?_; (first | refine t_effd c2 (by first | exact rfl | exact ⟨_, rfl, rfl, rfl⟩) rfl rfl (by decide) ?_ | refine t_effd c3 (by first | exact rfl | exact ⟨_, rfl, rfl, rfl⟩) rfl rfl (by decide) ?_ | refine t_effd c4 (by first | exact rfl | exact ⟨_, rfl, rfl, rfl⟩) rfl rfl (by decide) ?_ | refine t_fn d1 (by first | exact rfl | exact ⟨_, rfl, rfl, rfl⟩) rfl (by decide) ?_ | refine t_fn d2 (by first | exact rfl | exact ⟨_, rfl, rfl, rfl⟩) rfl (by decide) ?_ | refine t_fn d3 (by first | exact rfl | exact ⟨_, rfl, rfl, rfl⟩) rfl (by decide) ?_ | refine t_fn e1 (by first | exact rfl | exact ⟨_, rfl, rfl, rfl⟩) rfl (by decide) ?_ | refine t_fn e2 (by first | exact rfl | exact ⟨_, rfl, rfl, rfl⟩) rfl (by decide) ?_ | refine t_fn e3 (by first | exact rfl | exact ⟨_, rfl, rfl, rfl⟩) rfl (by decide) ?_ | refine t_fn awake_s (by first | exact rfl | exact ⟨_, rfl, rfl, rfl⟩) rfl (by decide) ?_)))))
    all_goals try (exfalso; omega)
    exact r_ret Try.func6 _ (res_one rfl rfl) ⟨rfl, rfl⟩
  · have c1 := built_bad l (by omega) hc
    repeat' (first | (refine k_op1 ?_; (first | refine o_sv rfl (by decide) ?_ | (refine k_blt ?_; (refine o_val (v_lenm rfl) rfl rfl (by decide) ?_)) | (refine k_call ?_; (first | refine o_fn c1 rfl (by decide) ?_ | refine o_fn awake_s rfl (by decide) ?_)) | (refine k_box ?_; (refine o_does (d_box_d rfl rfl (by decide)) ?_)) | refine o_val (v_pnileq rfl) rfl rfl (by decide) ?_)) | (refine k_ops ?_; (first | refine o_go (by first | exact .inl rfl | exact .inr ⟨_, _, _, rfl, rfl, rfl⟩) ?_ | refine o_nil ?_)) | (refine k_run ?_; (first | refine r_seq ?_ | refine r_region ?_ | refine r_true rfl ?_ | refine r_skip ?_ | refine r_if rfl (fun _ => ?_) (fun _ => ?_))))
    all_goals try (exfalso; omega)
    exact r_ret Try.func6 _ (res_one rfl rfl) ⟨rfl, rfl⟩
end Go.Proofs.Ytiapeheclfkdmaa
namespace Go.Proofs.Ytiapeheclfkdmaa
open Go.Ab Go.Stab
set_option maxHeartbeats 20000000
set_option maxRecDepth 100000
set_option linter.unusedVariables false
set_option linter.unusedSimpArgs false
attribute [local irreducible] Run Ops Op1 Does Val Tr PureF Eff1 NF Rel EffV EffM

theorem sequences_law (l q : List Span) (hl : l.length ≤ 9223372036854775807) (hq : q.length ≤ 9223372036854775807) : PureF Try.prog 5 [.d (spans l), .d (spans q)] (B true) := by
  refine pure_of fun H => ?_
  refine spec_of Try.func5 (by kernel_rfl) rfl (by simp) ?_
  dsimp only [Try.f5]
  by_cases hb : 40 < l.length
  · repeat' (first | (refine k_op1 ?_; (first | refine o_sv rfl (by decide) ?_ | (refine k_blt ?_; (refine o_val (v_lenm rfl) rfl rfl (by decide) ?_)))) | (refine k_ops ?_; (first | refine o_go (by first | exact .inl rfl | exact .inr ⟨_, _, _, rfl, rfl, rfl⟩) ?_ | refine o_nil ?_ | refine o_no rfl rfl (by decide) ?_ | refine o_casep rfl rfl (fun _ => ?_) (fun _ => ?_))) | (refine k_run ?_; (first | refine r_seq ?_ | refine r_region ?_ | refine r_true rfl ?_ | refine r_skip ?_ | refine r_if rfl (fun _ => ?_) (fun _ => ?_))))
    all_goals try (exfalso; omega)
    exact r_ret Try.func5 _ (res_one rfl rfl) ⟨rfl, rfl⟩
  by_cases hb2 : 20 < q.length
  · repeat' (first | (refine k_op1 ?_; (first | refine o_sv rfl (by decide) ?_ | (refine k_blt ?_; (refine o_val (v_lenm rfl) rfl rfl (by decide) ?_)))) | (refine k_ops ?_; (first | refine o_go (by first | exact .inl rfl | exact .inr ⟨_, _, _, rfl, rfl, rfl⟩) ?_ | refine o_nil ?_ | refine o_no rfl rfl (by decide) ?_ | refine o_casep rfl rfl (fun _ => ?_) (fun _ => ?_))) | (refine k_run ?_; (first | refine r_seq ?_ | refine r_region ?_ | refine r_true rfl ?_ | refine r_skip ?_ | refine r_if rfl (fun _ => ?_) (fun _ => ?_))))
    all_goals try (exfalso; omega)
    exact r_ret Try.func5 _ (res_one rfl rfl) ⟨rfl, rfl⟩
  by_cases hc : chk12 l = 0
  · have c1 := built_ok l (by omega) hc
    repeat' (first | (refine k_op1 ?_; (first | refine o_sv rfl (by decide) ?_ | (refine k_blt ?_; (refine o_val (v_lenm rfl) rfl rfl (by decide) ?_)) | (refine k_call ?_; ((refine o_callnT rfl (c1 _) (by decide) rfl (fun r H' h => ⟨_, _, h.1, h.2, rfl, rfl, ?_⟩); refine o_renT 21 600 rfl rfl ?_))) | refine o_val (v_peq rfl) rfl rfl (by decide) ?_)) | (refine k_ops ?_; (first | refine o_go (by first | exact .inl rfl | exact .inr ⟨_, _, _, rfl, rfl, rfl⟩) ?_ | refine o_nil ?_ | refine o_no rfl rfl (by decide) ?_ | refine o_casep rfl rfl (fun _ => ?_) (fun _ => ?_))) | (refine k_run ?_; (first | refine r_seq ?_ | refine r_region ?_ | refine r_true rfl ?_ | refine r_false rfl ?_ | refine r_skip ?_ | refine r_block ?_ | refine r_if rfl (fun _ => ?_) (fun _ => ?_))))
    all_goals try (exfalso; omega)
    refine r_loop ?_
    refine r_less (r_inv (fun k : Nat => ⟨81, [(0, .d (spans l)), (5, .ptr (0, 600) 0), (34, .d (spans q)), (35, I .i64 q.length), (36, I .i64 (k : Nat))], [(600, xbox l)], H⟩) (fun k => k ≤ q.length) (fun k => q.length - k) ?_ 0 (Nat.zero_le _)) rfl rfl
    intro k h1 ih
    by_cases hlt : k < q.length
    · obtain ⟨s, hs⟩ : ∃ s, q[k]? = some s := ⟨_, List.getElem?_eq_getElem hlt⟩
      have d1 := overlap_s (X := 600) 0 l s (by omega)
      have d2 := overlap_s (X := 601) 0 l s (by omega)
      have d3 := stab_s (X := 600) 0 l s.1 (by omega)
      have d4 := stab_s (X := 601) 0 l s.1 (by omega)
      have d5 := around_s (X := 600) 0 l s (by omega)
      have d6 := around_s (X := 601) 0 l s (by omega)
      have n1 := fnd_len l s fun _ => true
      have n2 := stb_len l s.1
      have n3 := fnd_len l s fun t => decide (t.1 ≤ s.1) && decide (s.2 ≤ t.2)
      have e1 := same_refl (fnd l s fun _ => true) (by omega)
      have e2 := same_refl (stb l s.1) (by omega)
      have e3 := same_refl (fnd l s fun t => decide (t.1 ≤ s.1) && decide (s.2 ≤ t.2)) (by omega)
      repeat' (first | (refine k_op1 ?_; (first | refine o_sv rfl (by decide) ?_ | (refine k_load ?_; (refine o_val (v_loadea rfl rfl) rfl rfl (by decide) ?_)) | (refine k_index ?_; (refine o_val (v_index (ys := q.map spc) rfl (by omega) (idx hs) rfl) rfl rfl (by decide) ?_)) | (refine k_bin ?_; (refine o_val (v_add (wi64 (by omega) (by omega))) rfl rfl (by decide) ?_)) | (refine k_call ?_; ((refine o_callnT rfl (c1 _) (by decide) rfl (fun r H' h => ⟨_, _, h.1, h.2, rfl, rfl, ?_⟩); refine o_renT 42 601 rfl rfl ?_))) | (refine k_store ?_; (refine o_store0 rfl rfl rfl rfl rfl rfl ?_)) | (refine k_alloc ?_; (refine o_does (d_alloc rfl rfl (by decide)) ?_)))) | (refine k_ops ?_; (first | refine o_go (by first | exact .inl rfl | exact .inr ⟨_, _, _, rfl, rfl, rfl⟩) ?_ | refine o_nil ?_)) | (refine k_run ?_; (first | refine r_seq ?_ | refine r_region ?_ | refine r_false rfl ?_ | refine r_skip ?_ | refine r_block ?_ | refine r_tr ?_ | refine r_inBlock ?_ | refine r_if rfl (fun _ => ?_) (fun _ => ?_) | refine r_exit rfl ?_)) | (refine k_tr ?_; (first | (refine kt_end ?_; refine t_end mix (by kernel_rfl) ?_) | refine t_sv rfl (by first | exact rfl | exact ⟨_, rfl, rfl, rfl⟩) (by decide) ?_ | (refine kt_load ?_; (first | refine t_val (v_load rfl rfl rfl rfl) (by first | exact rfl | exact ⟨_, rfl, rfl, rfl⟩) rfl rfl (by decide) ?_ | refine t_val (v_loadp rfl rfl rfl rfl) (by first | exact rfl | exact ⟨_, rfl, rfl, rfl⟩) rfl rfl (by decide) ?_)) | (refine kt_field ?_; (refine t_val (v_field rfl rfl) (by first | exact rfl | exact ⟨_, rfl, rfl, rfl⟩) rfl rfl (by decide) ?_)) | (refine kt_call ?_; (first | refine t_effd d1 (by first | exact rfl | exact ⟨_, rfl, rfl, rfl⟩) rfl rfl (by decide) ?_ | refine t_effd d2 (by first | exact rfl | exact ⟨_, rfl, rfl, rfl⟩) rfl rfl (by decide) ?_ | refine t_effd d3 (by first | exact rfl | exact ⟨_, rfl, rfl, rfl⟩) rfl rfl (by decide) ?_ | refine t_effd d4 (by first | exact rfl | exact ⟨_, rfl, rfl, rfl⟩) rfl rfl (by decide) ?_ | refine t_effd d5 (by first | exact rfl | exact ⟨_, rfl, rfl, rfl⟩) rfl rfl (by decide) ?_ | refine t_effd d6 (by first | exact rfl | exact ⟨_, rfl, rfl, rfl⟩) rfl rfl (by decide) ?_ | refine t_fn e1 (by first | exact rfl | exact ⟨_, rfl, rfl, rfl⟩) rfl (by decide) ?_ | refine t_fn e2 (by first | exact rfl | exact ⟨_, rfl, rfl, rfl⟩) rfl (by decide) ?_ | refine t_fn e3 (by first | exact rfl | exact ⟨_, rfl, rfl, rfl⟩) rfl (by decide) ?_)) | refine t_val (v_peq rfl) (by first | exact rfl | exact ⟨_, rfl, rfl, rfl⟩) rfl rfl (by decide) ?_)))
      all_goals try (exfalso; omega)
      exact r_less (ih (k + 1) (by omega) (by omega)) rfl rfl
    · obtain rfl : k = q.length := by omega
      repeat' (first | (refine k_op1 ?_; (first | refine o_sv rfl (by decide) ?_ | (refine k_call ?_; (refine o_fn awake_s rfl (by decide) ?_)))) | (refine k_ops ?_; (first | refine o_go (by first | exact .inl rfl | exact .inr ⟨_, _, _, rfl, rfl, rfl⟩) ?_ | refine o_nil ?_)) | (refine k_run ?_; (first | refine r_seq ?_ | refine r_region ?_ | refine r_skip ?_ | refine r_block ?_ | refine r_if rfl (fun _ => ?_) (fun _ => ?_) | refine r_exit rfl ?_)))
      all_goals try (exfalso; omega)
      exact r_ret Try.func5 _ (res_one rfl rfl) ⟨rfl, rfl⟩
  · have c1 := built_bad l (by omega) hc
    repeat' (first | (refine k_op1 ?_; (first | refine o_sv rfl (by decide) ?_ | (refine k_blt ?_; (refine o_val (v_lenm rfl) rfl rfl (by decide) ?_)) | (refine k_call ?_; (first | refine o_fn c1 rfl (by decide) ?_ | refine o_fn awake_s rfl (by decide) ?_)) | refine o_val (v_pnileq rfl) rfl rfl (by decide) ?_)) | (refine k_ops ?_; (first | refine o_go (by first | exact .inl rfl | exact .inr ⟨_, _, _, rfl, rfl, rfl⟩) ?_ | refine o_nil ?_ | refine o_no rfl rfl (by decide) ?_ | refine o_casep rfl rfl (fun _ => ?_) (fun _ => ?_))) | (refine k_run ?_; (first | refine r_seq ?_ | refine r_region ?_ | refine r_true rfl ?_ | refine r_skip ?_ | refine r_if rfl (fun _ => ?_) (fun _ => ?_))))
    all_goals try (exfalso; omega)
    exact r_ret Try.func5 _ (res_one rfl rfl) ⟨rfl, rfl⟩
end Go.Proofs.Ytiapeheclfkdmaa
