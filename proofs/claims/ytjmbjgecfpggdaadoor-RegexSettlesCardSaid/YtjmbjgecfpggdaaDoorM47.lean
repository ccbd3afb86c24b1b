/- A part of the proof: G47. -/
import Derived.Test.YtjmbjgecfpggdaaDoorM46
import Derived.Test.YtjmbjgecfpggdaaDoorRv
set_option linter.all false
set_option linter.unusedVariables false
set_option linter.unusedSimpArgs false
namespace Go.Proofs.YtjmbjgecfpggdaaDoor
open Go.Ab Go.Rx
set_option maxHeartbeats 20000000
set_option maxRecDepth 100000
set_option linter.unusedVariables false
set_option linter.unusedSimpArgs false
set_option linter.unusedSectionVars false
attribute [local irreducible] Run Ops Op1 Does Val Tr PureF Eff1 NF Rel EffV EffM EffN
theorem same_s : ∀ e : Rx, fit e → PureF Tryd.prog 22 [.d (Drx e), .d (Drx e)] (B true) := by
  refine Rx.ind' fun op mn mx rs ks ih hfit => ?_
  obtain ⟨hf1, hf2, hf3⟩ := hfit
  rw [Drx_mk]
  refine pure_of fun H => ?_
  refine spec_of Tryd.func22 (by kernel_rfl) rfl (by simp) ?_
  dsimp only [Tryd.f22]
  repeat' (first | (refine k_op1 ?_; (first | refine o_sv rfl (by decide) ?_ | (refine k_load ?_; (refine o_val (v_load rfl rfl rfl rfl) rfl rfl (by decide) ?_)) | (refine k_field ?_; (refine o_val (v_field rfl rfl) rfl rfl (by decide) ?_)) | (refine k_blt ?_; (refine o_val (v_lenm rfl) rfl rfl (by decide) ?_)) | (refine k_box ?_; (refine o_does (d_box rfl rfl rfl rfl rfl (by decide)) ?_)))) | (refine k_ops ?_; (first | refine o_go (by first | exact .inl rfl | exact .inr ⟨_, _, _, rfl, rfl, rfl⟩) ?_ | refine o_nil ?_ | refine o_no rfl rfl (by decide) ?_ | refine o_casen rfl rfl (fun _ => ?_) (fun _ => ?_))) | (refine k_run ?_; (first | refine r_seq ?_ | refine r_region ?_ | refine r_true rfl ?_ | refine r_skip ?_ | refine r_block ?_ | refine r_ifn rfl (fun _ => ?_) (fun _ => ?_))))
  all_goals try (exfalso; omega)
  refine r_loop ?_
  refine r_less (r_inv (fun q : Nat => ⟨81, [(2, .ptr (0, 2) 0), (3, .ptr (0, 3) 0), (46, I .i64 rs.length), (47, I .i64 (q : Nat))], [(2, .box ((rx5 op mn mx rs ks).map .d)), (3, .box ((rx5 op mn mx rs ks).map .d))], H⟩) (fun q => q ≤ rs.length) (fun q => rs.length - q) ?_ 0 (Nat.zero_le _)) rfl rfl
  intro i i1 ihl
  by_cases hlt : i < rs.length
  · obtain ⟨r, hr⟩ : ∃ r, rs[i]? = some r := ⟨_, List.getElem?_eq_getElem hlt⟩
    repeat' (first | (refine k_op1 ?_; (first | refine o_sv rfl (by decide) ?_ | (refine k_load ?_; (refine o_val (v_load rfl rfl rfl rfl) rfl rfl (by decide) ?_)) | (refine k_field ?_; (refine o_val (v_field rfl rfl) rfl rfl (by decide) ?_)) | (refine k_bin ?_; (refine o_val (v_add (wi64 (by omega) (by omega))) rfl rfl (by decide) ?_)) | (refine k_blt ?_; (refine o_val (v_lenm rfl) rfl rfl (by decide) ?_)))) | (refine k_ops ?_; (first | refine o_go (by first | exact .inl rfl | exact .inr ⟨_, _, _, rfl, rfl, rfl⟩) ?_ | refine o_nil ?_)) | (refine k_run ?_; (first | refine r_seq ?_ | refine r_region ?_ | refine r_false rfl ?_ | refine r_skip ?_ | refine r_block ?_ | refine r_tr ?_ | refine r_inBlock ?_ | refine r_if rfl (fun _ => ?_) (fun _ => ?_) | refine r_exit rfl ?_)) | (refine k_tr ?_; (first | (refine kt_end ?_; refine t_end mix (by kernel_rfl) ?_) | refine t_sv rfl (by first | exact rfl | exact ⟨_, rfl, rfl, rfl⟩) (by decide) ?_ | (refine kt_load ?_; (first | refine t_val (v_load rfl rfl rfl rfl) (by first | exact rfl | exact ⟨_, rfl, rfl, rfl⟩) rfl rfl (by decide) ?_ | refine t_val (v_loadea rfl rfl) (by first | exact rfl | exact ⟨_, rfl, rfl, rfl⟩) rfl rfl (by decide) ?_)) | (refine kt_field ?_; (refine t_val (v_field rfl rfl) (by first | exact rfl | exact ⟨_, rfl, rfl, rfl⟩) rfl rfl (by decide) ?_)) | (refine kt_index ?_; (refine t_val (v_index (ys := rs.map rgc) rfl (by omega) (idx hr) rfl) (by first | exact rfl | exact ⟨_, rfl, rfl, rfl⟩) rfl rfl (by decide) ?_)) | (refine kt_bin ?_; (refine t_val (v_agg (op := .neq) (tx := 71) (rngNe r)) (by first | exact rfl | exact ⟨_, rfl, rfl, rfl⟩) rfl rfl (by decide) ?_)))))
    all_goals try (exfalso; omega)
    all_goals exact r_less (ihl (i + 1) (by omega) (by omega)) rfl rfl
  · obtain rfl : i = rs.length := by omega
    clear ihl
    repeat' (first | (refine k_op1 ?_; (first | refine o_sv rfl (by decide) ?_ | (refine k_load ?_; (refine o_val (v_load rfl rfl rfl rfl) rfl rfl (by decide) ?_)) | (refine k_field ?_; (refine o_val (v_field rfl rfl) rfl rfl (by decide) ?_)) | (refine k_blt ?_; (refine o_val (v_lenm rfl) rfl rfl (by decide) ?_)))) | (refine k_ops ?_; (first | refine o_go (by first | exact .inl rfl | exact .inr ⟨_, _, _, rfl, rfl, rfl⟩) ?_ | refine o_nil ?_)) | (refine k_run ?_; (first | refine r_seq ?_ | refine r_region ?_ | refine r_skip ?_ | refine r_block ?_ | refine r_tr ?_ | refine r_if rfl (fun _ => ?_) (fun _ => ?_) | refine r_exit rfl ?_)) | (refine k_tr ?_; (first | refine t_sv rfl (by first | exact rfl | exact ⟨_, rfl, rfl, rfl⟩) (by decide) ?_ | (refine kt_load ?_; (refine t_val (v_load rfl rfl rfl rfl) (by first | exact rfl | exact ⟨_, rfl, rfl, rfl⟩) rfl rfl (by decide) ?_)) | (refine kt_field ?_; (refine t_val (v_field rfl rfl) (by first | exact rfl | exact ⟨_, rfl, rfl, rfl⟩) rfl rfl (by decide) ?_)))))
    all_goals try (exfalso; omega)
    refine r_loop ?_
    refine r_less (r_inv (fun q : Nat => ⟨81, [(2, .ptr (0, 2) 0), (3, .ptr (0, 3) 0), (64, I .i64 ks.length), (65, I .i64 (q : Nat))], [(2, .box ((rx5 op mn mx rs ks).map .d)), (3, .box ((rx5 op mn mx rs ks).map .d))], H⟩) (fun q => q ≤ ks.length) (fun q => ks.length - q) ?_ 0 (Nat.zero_le _)) rfl rfl
    intro i i1 ihl
    by_cases hlt : i < ks.length
    · obtain ⟨k, hk⟩ : ∃ k, ks[i]? = some k := ⟨_, List.getElem?_eq_getElem hlt⟩
      have hc := ih k (List.mem_of_getElem? hk) (fitL_mem hf3 k (List.mem_of_getElem? hk))
      obtain ⟨op', mn', mx', rs', ks'⟩ := k
      rw [Drx_mk] at hc
      repeat' (first | (refine k_op1 ?_; (first | refine o_sv rfl (by decide) ?_ | (refine k_bin ?_; (refine o_val (v_add (wi64 (by omega) (by omega))) rfl rfl (by decide) ?_)))) | (refine k_ops ?_; (first | refine o_go (by first | exact .inl rfl | exact .inr ⟨_, _, _, rfl, rfl, rfl⟩) ?_ | refine o_nil ?_)) | (refine k_run ?_; (first | refine r_seq ?_ | refine r_region ?_ | refine r_false rfl ?_ | refine r_skip ?_ | refine r_block ?_ | refine r_tr ?_ | refine r_inBlock ?_ | refine r_if rfl (fun _ => ?_) (fun _ => ?_) | refine r_exit rfl ?_)) | (refine k_tr ?_; (first | (refine kt_end ?_; refine t_end mix (by kernel_rfl) ?_) | refine t_sv rfl (by first | exact rfl | exact ⟨_, rfl, rfl, rfl⟩) (by decide) ?_ | (refine kt_load ?_; (first | refine t_val (v_load rfl rfl rfl rfl) (by first | exact rfl | exact ⟨_, rfl, rfl, rfl⟩) rfl rfl (by decide) ?_ | refine t_val (v_loadea rfl rfl) (by first | exact rfl | exact ⟨_, rfl, rfl, rfl⟩) rfl rfl (by decide) ?_)) | (refine kt_field ?_; (refine t_val (v_field rfl rfl) (by first | exact rfl | exact ⟨_, rfl, rfl, rfl⟩) rfl rfl (by decide) ?_)) | (refine kt_index ?_; (refine t_val (v_index (ys := ks.map rxc) rfl (by omega) (idx_rx hk) rfl) (by first | exact rfl | exact ⟨_, rfl, rfl, rfl⟩) rfl rfl (by decide) ?_)) | (refine kt_call ?_; (refine t_fn hc (by first | exact rfl | exact ⟨_, rfl, rfl, rfl⟩) rfl (by decide) ?_)))))
      all_goals try (exfalso; omega)
      all_goals exact r_less (ihl (i + 1) (by omega) (by omega)) rfl rfl
    · obtain rfl : i = ks.length := by omega
      repeat' (first | (refine k_op1 ?_; (refine o_sv rfl (by decide) ?_)) | (refine k_ops ?_; (first | refine o_go (by first | exact .inl rfl | exact .inr ⟨_, _, _, rfl, rfl, rfl⟩) ?_ | refine o_nil ?_)) | (refine k_run ?_; (first | refine r_seq ?_ | refine r_region ?_ | refine r_skip ?_ | refine r_block ?_ | refine r_tr ?_ | refine r_if rfl (fun _ => ?_) (fun _ => ?_) | refine r_exit rfl ?_)) | (refine k_tr ?_; (first | refine t_sv rfl (by first | exact rfl | exact ⟨_, rfl, rfl, rfl⟩) (by decide) ?_ | (refine kt_load ?_; (refine t_val (v_load rfl rfl rfl rfl) (by first | exact rfl | exact ⟨_, rfl, rfl, rfl⟩) rfl rfl (by decide) ?_)) | (refine kt_field ?_; (refine t_val (v_field rfl rfl) (by first | exact rfl | exact ⟨_, rfl, rfl, rfl⟩) rfl rfl (by decide) ?_)))))
      all_goals try (exfalso; omega)
      all_goals exact r_ret Tryd.func22 _ (res_one rfl rfl) ⟨rfl, rfl⟩
theorem fit_vns : (∀ e : Rx, vns e = true → sz e ≤ 1000000 → fit e) ∧ ∀ l : List Rx, vnsL l = true → szL l ≤ 1000000 → fitL l := by
  refine Rx.ind (fun op mn mx rs ks ih hv hs => ?_) (fun _ _ => by rw [fitL]; trivial) (fun k ks hk ih hv hs => ?_)
  · rw [vns, Bool.and_eq_true] at hv
    rw [sz] at hs
    have := len_szL ks
    rw [fit]
    refine ⟨?_, by omega, ih hv.2 (by omega)⟩
    by_cases o1 : op = 1
    · have h := hv.1
      rw [vn, if_pos o1, Bool.and_eq_true] at h
      have := okRs_len h.2
      omega
    · have h := hv.1
      rcases vn_cases h with ⟨h, _⟩ | ⟨_, _, _, rfl, _⟩ | ⟨_, _, _, rfl, _⟩ | ⟨_, rfl, _⟩
      · exact absurd h o1
      all_goals simp
  · rw [vnsL, Bool.and_eq_true] at hv
    rw [szL] at hs
    rw [fitL]
    exact ⟨hk hv.1 (by omega), ih hv.2 (by omega)⟩
theorem fit_val {e : Rx} (h : val e = 0) : fit e := fit_vns.1 e (val_vns h) (by have := val_sz h; omega)
/-- what is read without an error is valid -/
theorem parseS_ok {s : ByteArray} (h : (parseS s).2.2 = 0) : val (parseS s).1 = 0 := by
  rw [parseS] at h ⊢
  split at h
  · cases h
  · rename_i h1
    split at h
    · cases h
    · rw [if_neg h1]; exact parseU_ok h
/-- what is written is read back -/
theorem parseS_fm {e : Rx} (hv : val e = 0) (hw : wrt e = true) (hs : (txE (fm e 0)).size ≤ 200) : parseS (txE (fm e 0)) = (e, 0, 0) := by
  obtain ⟨h1, h2⟩ := parseU_tx hv hw (txE (fm e 0)).size 0 rfl (val_vns hv)
  rw [parseS, if_neg (by omega)]
  have nb : ∀ (l : List U) (i : Nat), l.all okUn = true → (unF i l).find? isBad = none := fun l => by
    induction l with
    | nil => intro i _; rfl
    | cons u l ih =>
      intro i h
      rw [List.all_cons, Bool.and_eq_true] at h
      have hb : isBad (u.r, (i : Int), (u.n : Int)) = false := by
        have h1 := h.1
        simp only [okUn, Bool.or_eq_true, Bool.not_eq_true', decide_eq_false_iff_not, decide_eq_true_eq] at h1
        simp only [isBad, Bool.and_eq_false_iff, decide_eq_false_iff_not]
        rcases h1 with h1 | h1
        · exact .inl h1
        · exact .inr (by omega)
      rw [unF, List.find?_cons, hb]
      exact ih _ h.2
  rw [nb _ _ h1]
  exact h2
theorem fm_empty {e : Rx} (hv : val e = 0) (h : ¬ wrt e = true) : ¬ (e.op = 2 ∧ e.ks = []) := by
  rintro ⟨h2, h3⟩
  obtain ⟨op, mn, mx, rs, ks⟩ := e
  obtain rfl : op = 2 := h2
  obtain rfl : ks = [] := h3
  have := val_vns hv
  rw [vns, Bool.and_eq_true] at this
  rcases vn_cases this.1 with ⟨h, _⟩ | ⟨_, _, _, rfl, _⟩ | ⟨h, _⟩ | ⟨h, _⟩
  · cases h
  · exact h rfl
  · cases h
  · cases h
theorem parse_any (τ : Tab) (s : ByteArray) (hs : s.size ≤ 140737488351232) : Eff1 Tryd.prog 14 [S s] (tabs τ 0) [] (.tup [.d (eX (parseS s).1), I .i64 (parseS s).2.1, I .i64 (parseS s).2.2]) := by
  by_cases h200 : 200 < s.size
  · refine eff_of fun H hH => ?_
    refine spec_of Tryd.func14 (by kernel_rfl) rfl (by simp) ?_
    dsimp only [Tryd.f14]
    rw [parseS, if_pos h200, nil_mk]
    repeat' (first | (refine k_op1 ?_; (first | refine o_sv rfl (by decide) ?_ | (refine k_blt ?_; (refine o_val (v_lens rfl) rfl rfl (by decide) ?_)) | (refine k_store ?_; (refine o_store0 rfl rfl rfl rfl rfl rfl ?_)) | (refine k_alloc ?_; (refine o_does (d_alloc rfl rfl (by decide)) ?_)) | (refine k_build ?_; (refine o_build rfl rfl rfl rfl rfl rfl rfl (by decide) ?_)))) | (refine k_ops ?_; (first | refine o_go (by first | exact .inl rfl | exact .inr ⟨_, _, _, rfl, rfl, rfl⟩) ?_ | refine o_nil ?_)) | (refine k_run ?_; (first | refine r_seq ?_ | refine r_region ?_ | refine r_skip ?_ | refine r_block ?_ | refine r_if rfl (fun _ => ?_) (fun _ => ?_))))
    all_goals try (exfalso; omega)
    all_goals exact r_ret Tryd.func14 _ (res_cell_two rfl rfl rfl rfl rfl rfl rfl rfl) ⟨rfl, rfl⟩
  · exact parse_s τ s (by omega)
theorem settles_s (τ : Tab) (s : ByteArray) (hs : s.size ≤ 140737488351232) : Eff1 Tryd.prog 8 [S s] (tabs τ 0) [] (B true) := by
  refine eff_of fun H hH => ?_
  have hX0 := hH ((0, 700), .glob 0 τ.o0) (by simp)
  have hX1 := hH ((0, 701), .glob 1 τ.o1) (by simp)
  have ha := awake_s τ
  have hp1 := parse_any τ s hs
  have hok := parseS_ok (s := s)
  generalize parseS s = P1 at *
  obtain ⟨e, a1, e1⟩ := P1
  simp only at hp1 hok
  by_cases hearly : 200 < s.size ∨ e1 ≠ 0
  · obtain ⟨op, mn, mx, rs, ks⟩ := e
    rw [eX_mk] at hp1
    refine spec_of Tryd.func8 (by kernel_rfl) rfl (by simp) ?_
    dsimp only [Tryd.f8]
    refine r_take 700 0 700 hX0 rfl rfl ?_
    refine r_take 701 0 701 (upd_ne hX1 (by simp)) rfl rfl ?_
    repeat' (first | (refine k_op1 ?_; (first | refine o_sv rfl (by decide) ?_ | (refine k_load ?_; (refine o_val (v_loadp rfl rfl rfl rfl) rfl rfl (by decide) ?_)) | (refine k_blt ?_; (refine o_val (v_lens rfl) rfl rfl (by decide) ?_)) | (refine k_call ?_; (refine o_effd hp1 rfl rfl (by decide) ?_)) | (refine k_store ?_; (refine o_store0 rfl rfl rfl rfl rfl rfl ?_)) | (refine k_alloc ?_; (refine o_does (d_alloc rfl rfl (by decide)) ?_)))) | (refine k_ops ?_; (first | refine o_go (by first | exact .inl rfl | exact .inr ⟨_, _, _, rfl, rfl, rfl⟩) ?_ | refine o_nil ?_ | refine o_no rfl rfl (by decide) ?_ | refine o_casep rfl rfl (fun _ => ?_) (fun _ => ?_))) | (refine k_run ?_; (first | refine r_seq ?_ | refine r_region ?_ | refine r_true rfl ?_ | refine r_skip ?_ | refine r_ifn rfl (fun _ => ?_) (fun _ => ?_))))
    all_goals try (exfalso; omega)
    all_goals refine r_give 700 0 700 (raw := .glob 0 τ.o0) rfl rfl (upd_ne (upd_same _ (0, 700) _) (by simp)) rfl rfl ?_
    all_goals refine r_give 701 0 701 (raw := .glob 1 τ.o1) rfl rfl (upd_ne (upd_same _ (0, 701) _) (by simp)) rfl rfl ?_
    all_goals exact r_ret Tryd.func8 _ (res_one rfl rfl) ⟨rfl, tabs_back hX0 hX1⟩
  have h200 : ¬ 200 < s.size := fun h => hearly (.inl h)
  obtain rfl : e1 = 0 := by omega
  have hval := hok rfl
  have hfit := fit_val hval
  have hfm := fmt_s e hfit
  have hv := validate_s e hfit
  have hsm := same_s e hfit
  rw [hval] at hv
  by_cases hw : wrt e = true
  · have hfS : fmS e = txE (fm e 0) := by rw [fmS, if_pos ⟨hval, hw⟩]
    have hpb := parseS_fm hval hw
    have hp2 := fun h : (txE (fm e 0)).size ≤ 1000000 => parse_s τ (txE (fm e 0)) h
    rw [hfS] at hfm
    generalize txE (fm e 0) = T at *
    obtain ⟨op, mn, mx, rs, ks⟩ := e
    rw [eX_mk] at hp1
    rw [Drx_mk] at hfm hv hsm
    refine spec_of Tryd.func8 (by kernel_rfl) rfl (by simp) ?_
    dsimp only [Tryd.f8]
    refine r_take 700 0 700 hX0 rfl rfl ?_
    refine r_take 701 0 701 (upd_ne hX1 (by simp)) rfl rfl ?_
    by_cases hT : T.size ≤ 200
    · have hp2 := hp2 (by omega)
      rw [hpb hT, eX_mk] at hp2
      simp only at hp2
      repeat' (first | (refine k_op1 ?_; (first | refine o_sv rfl (by decide) ?_ | (refine k_load ?_; (first | refine o_val (v_load rfl rfl rfl rfl) rfl rfl (by decide) ?_ | refine o_val (v_loadp rfl rfl rfl rfl) rfl rfl (by decide) ?_)) | (refine k_field ?_; (refine o_val (v_field rfl rfl) rfl rfl (by decide) ?_)) | (refine k_blt ?_; (first | refine o_val (v_lenm rfl) rfl rfl (by decide) ?_ | refine o_val (v_lens rfl) rfl rfl (by decide) ?_)) | (refine k_call ?_; (first | refine o_effd ha rfl rfl (by decide) ?_ | refine o_effd hp2 rfl rfl (by decide) ?_ | refine o_effd hp1 rfl rfl (by decide) ?_ | refine o_fn hfm rfl (by decide) ?_ | refine o_fn hv rfl (by decide) ?_ | refine o_fn hsm rfl (by decide) ?_)) | (refine k_store ?_; (refine o_store0 rfl rfl rfl rfl rfl rfl ?_)) | (refine k_alloc ?_; (refine o_does (d_alloc rfl rfl (by decide)) ?_)))) | (refine k_ops ?_; (first | refine o_go (by first | exact .inl rfl | exact .inr ⟨_, _, _, rfl, rfl, rfl⟩) ?_ | refine o_nil ?_ | refine o_no rfl rfl (by decide) ?_ | refine o_no2 rfl rfl (by decide) ?_ | refine o_casep rfl rfl (fun _ => ?_) (fun _ => ?_) | refine o_casen rfl rfl (fun _ => ?_) (fun _ => ?_))) | (refine k_run ?_; (first | refine r_seq ?_ | refine r_region ?_ | refine r_true rfl ?_ | refine r_false rfl ?_ | refine r_skip ?_ | refine r_if rfl (fun _ => ?_) (fun _ => ?_))))
      all_goals try (exfalso; first | omega | contradiction | (simp_all; done))
      all_goals refine r_give 700 0 700 (raw := .glob 0 τ.o0) rfl rfl (upd_ne (upd_same _ (0, 700) _) (by simp)) rfl rfl ?_
      all_goals refine r_give 701 0 701 (raw := .glob 1 τ.o1) rfl rfl (upd_ne (upd_same _ (0, 701) _) (by simp)) rfl rfl ?_
      all_goals exact r_ret Tryd.func8 _ (res_one rfl rfl) ⟨rfl, tabs_back hX0 hX1⟩
    · repeat' (first | (refine k_op1 ?_; (first | refine o_sv rfl (by decide) ?_ | (refine k_load ?_; (first | refine o_val (v_load rfl rfl rfl rfl) rfl rfl (by decide) ?_ | refine o_val (v_loadp rfl rfl rfl rfl) rfl rfl (by decide) ?_)) | (refine k_field ?_; (refine o_val (v_field rfl rfl) rfl rfl (by decide) ?_)) | (refine k_blt ?_; (first | refine o_val (v_lenm rfl) rfl rfl (by decide) ?_ | refine o_val (v_lens rfl) rfl rfl (by decide) ?_)) | (refine k_call ?_; (first | refine o_effd ha rfl rfl (by decide) ?_ | refine o_effd hp1 rfl rfl (by decide) ?_ | refine o_fn hfm rfl (by decide) ?_ | refine o_fn hv rfl (by decide) ?_)) | (refine k_store ?_; (refine o_store0 rfl rfl rfl rfl rfl rfl ?_)) | (refine k_alloc ?_; (refine o_does (d_alloc rfl rfl (by decide)) ?_)))) | (refine k_ops ?_; (first | refine o_go (by first | exact .inl rfl | exact .inr ⟨_, _, _, rfl, rfl, rfl⟩) ?_ | refine o_nil ?_ | refine o_no rfl rfl (by decide) ?_ | refine o_no2 rfl rfl (by decide) ?_ | refine o_casep rfl rfl (fun _ => ?_) (fun _ => ?_) | refine o_casen rfl rfl (fun _ => ?_) (fun _ => ?_))) | (refine k_run ?_; (first | refine r_seq ?_ | refine r_region ?_ | refine r_true rfl ?_ | refine r_false rfl ?_ | refine r_skip ?_ | refine r_if rfl (fun _ => ?_) (fun _ => ?_))))
      all_goals try (exfalso; first | omega | contradiction | (simp_all; done))
      all_goals refine r_give 700 0 700 (raw := .glob 0 τ.o0) rfl rfl (upd_ne (upd_same _ (0, 700) _) (by simp)) rfl rfl ?_
      all_goals refine r_give 701 0 701 (raw := .glob 1 τ.o1) rfl rfl (upd_ne (upd_same _ (0, 701) _) (by simp)) rfl rfl ?_
      all_goals exact r_ret Tryd.func8 _ (res_one rfl rfl) ⟨rfl, tabs_back hX0 hX1⟩
  · have hfS : fmS e = ⟨#[]⟩ := by rw [fmS, if_neg (fun h => hw h.2)]
    have hem := fm_empty hval hw
    rw [hfS] at hfm
    obtain ⟨op, mn, mx, rs, ks⟩ := e
    rw [eX_mk] at hp1
    rw [Drx_mk] at hfm hv hsm
    refine spec_of Tryd.func8 (by kernel_rfl) rfl (by simp) ?_
    dsimp only [Tryd.f8]
    refine r_take 700 0 700 hX0 rfl rfl ?_
    refine r_take 701 0 701 (upd_ne hX1 (by simp)) rfl rfl ?_
    have hem : ¬ (op = 2 ∧ ks.length = 0) := fun h => hem ⟨h.1, List.eq_nil_of_length_eq_zero h.2⟩
    have hz0 : (⟨#[]⟩ : ByteArray).size = 0 := rfl
    repeat' (first | (refine k_op1 ?_; (first | refine o_sv rfl (by decide) ?_ | (refine k_load ?_; (first | refine o_val (v_load rfl rfl rfl rfl) rfl rfl (by decide) ?_ | refine o_val (v_loadp rfl rfl rfl rfl) rfl rfl (by decide) ?_)) | (refine k_field ?_; (refine o_val (v_field rfl rfl) rfl rfl (by decide) ?_)) | (refine k_blt ?_; (first | refine o_val (v_lenm rfl) rfl rfl (by decide) ?_ | refine o_val (v_lens rfl) rfl rfl (by decide) ?_)) | (refine k_call ?_; (first | refine o_effd ha rfl rfl (by decide) ?_ | refine o_effd hp1 rfl rfl (by decide) ?_ | refine o_fn hfm rfl (by decide) ?_ | refine o_fn hv rfl (by decide) ?_)) | (refine k_store ?_; (refine o_store0 rfl rfl rfl rfl rfl rfl ?_)) | (refine k_alloc ?_; (refine o_does (d_alloc rfl rfl (by decide)) ?_)))) | (refine k_ops ?_; (first | refine o_go (by first | exact .inl rfl | exact .inr ⟨_, _, _, rfl, rfl, rfl⟩) ?_ | refine o_nil ?_ | refine o_no rfl rfl (by decide) ?_ | refine o_casep rfl rfl (fun _ => ?_) (fun _ => ?_) | refine o_casen rfl rfl (fun _ => ?_) (fun _ => ?_))) | (refine k_run ?_; (first | refine r_seq ?_ | refine r_region ?_ | refine r_true rfl ?_ | refine r_false rfl ?_ | refine r_skip ?_ | refine r_if rfl (fun _ => ?_) (fun _ => ?_))))
    all_goals try (exfalso; first | omega | contradiction | (simp_all; done))
    all_goals refine r_give 700 0 700 (raw := .glob 0 τ.o0) rfl rfl (upd_ne (upd_same _ (0, 700) _) (by simp)) rfl rfl ?_
    all_goals refine r_give 701 0 701 (raw := .glob 1 τ.o1) rfl rfl (upd_ne (upd_same _ (0, 701) _) (by simp)) rfl rfl ?_
    all_goals exact r_ret Tryd.func8 _ (res_one rfl rfl) ⟨rfl, tabs_back hX0 hX1⟩
end Go.Proofs.YtjmbjgecfpggdaaDoor
