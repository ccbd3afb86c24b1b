/- A part of the proof: G42. -/
import Derived.Test.YtjmbjgecfpggdaaDoorM39
import Derived.Test.YtjmbjgecfpggdaaDoorRv
import Derived.Test.YtjmbjgecfpggdaaDoorMX22
import Derived.Test.YtjmbjgecfpggdaaDoorRx
set_option linter.all false
set_option linter.unusedVariables false
set_option linter.unusedSimpArgs false
namespace Go.Proofs.YtjmbjgecfpggdaaDoor
open Go.Ab Go.Rx
set_option maxHeartbeats 20000000
set_option maxRecDepth 100000
set_option linter.unusedVariables false
set_option linter.unusedSimpArgs false
set_option linter.unusedSectionVars false
attribute [local irreducible] Run Ops Op1 Does Val Tr PureF Eff1 NF Rel EffV EffM EffN
theorem nobad : ∀ (l : List U) (i : Nat), l.all okUn = true → (unF i l).find? isBad = none
  | [], i, _ => rfl
  | u :: l, i, h => by
    rw [List.all_cons, Bool.and_eq_true] at h
    have ih := nobad l (i + u.n) h.2
    have hb : isBad (u.r, (i : Int), (u.n : Int)) = false := by
      have h1 := h.1
      simp only [okUn, Bool.or_eq_true, Bool.not_eq_true', decide_eq_false_iff_not, decide_eq_true_eq] at h1
      simp only [isBad, Bool.and_eq_false_iff, decide_eq_false_iff_not]
      rcases h1 with h1 | h1
      · exact .inl h1
      · exact .inr (by omega)
    rw [unF, List.find?_cons, hb]
    exact ih
theorem parseS_u {s : ByteArray} (hv : vldS s = true) (hs : s.size ≤ 200) : parseS s = parseU s.size (rst s 0) := by
  rw [parseS, if_neg (by omega), nobad _ _ hv]
theorem stay_S {s t : ByteArray} (hv : vldS s = true) (hw : vldS t = true) (hs : s.size + t.size ≤ 200) (he : (parseS s).2.2 = 3 ∨ (parseS s).2.2 = 8 ∨ (parseS s).2.2 = 1) (hlt : (parseS s).2.1 < s.size) :
    (parseS (s ++ t)).2 = (parseS s).2 := by
  have hvw : vldS (s ++ t) = true := by
    rw [vldS, rst_app s t hv, List.all_append, Bool.and_eq_true]; exact ⟨hv, hw⟩
  rw [parseS_u hvw (by rw [app_size]; omega), rst_app s t hv, app_size]
  rw [parseS_u hv (by omega)] at he hlt ⊢
  obtain ⟨y, hy⟩ := parse_stay s.size t.size (rst s 0) (rst t 0) (by rw [rst_size (Nat.zero_le _)]; omega) (by rw [rst_size (Nat.zero_le _)]; omega) (parseU s.size (rst s 0)).2.1 (parseU s.size (rst s 0)).2.2 (parseU s.size (rst s 0)).1 rfl he hlt (fun u hu => rst_pos s _ 0 (Nat.le_refl _) u hu)
  rw [hy]
theorem stays_s (τ : Tab) (s t : ByteArray) (hs : s.size ≤ 140737488351232) (ht : t.size ≤ 140737488351232) : Eff1 Tryd.prog 4 [S s, S t] (tabs τ 0) [] (B true) := by
  refine eff_of fun H hH => ?_
  have hX0 := hH ((0, 700), .glob 0 τ.o0) (by simp)
  have hX1 := hH ((0, 701), .glob 1 τ.o1) (by simp)
  have ha := awake_s τ
  have hr1 := fun h => rvalid_s s h
  have hr2 := fun h => rvalid_s t h
  have hp1 := fun h => parse_s τ s h
  have hp2 := fun h => parse_s τ (s ++ t) h
  have hstay := fun a b => stay_S (s := s) (t := t) a b
  rw [app_size] at hp2
  generalize parseS (s ++ t) = P2 at *
  generalize parseS s = P1 at *
  generalize vldS s = b1 at *
  generalize vldS t = b2 at *
  obtain ⟨⟨op, mn, mx, rs, ks⟩, a1, e1⟩ := P1
  obtain ⟨⟨op', mn', mx', rs', ks'⟩, a2, e2⟩ := P2
  simp only [eX_mk] at hp1 hp2
  simp only [Prod.mk.injEq] at hstay
  refine spec_of Tryd.func4 (by kernel_rfl) rfl (by simp) ?_
  dsimp only [Tryd.f4]
  refine r_take 700 0 700 hX0 rfl rfl ?_
  refine r_take 701 0 701 (upd_ne hX1 (by simp)) rfl rfl ?_
  by_cases h200 : 200 < s.size + t.size
  · repeat' (first | (refine k_op1 ?_; (first | refine o_sv rfl (by decide) ?_ | (refine k_bin ?_; (refine o_val (v_add (wi64 (by omega) (by omega))) rfl rfl (by decide) ?_)) | (refine k_blt ?_; (refine o_val (v_lens rfl) rfl rfl (by decide) ?_)))) | (refine k_ops ?_; (first | refine o_go (by first | exact .inl rfl | exact .inr ⟨_, _, _, rfl, rfl, rfl⟩) ?_ | refine o_nil ?_ | refine o_no rfl rfl (by decide) ?_ | refine o_casep rfl rfl (fun _ => ?_) (fun _ => ?_))) | (refine k_run ?_; (first | refine r_seq ?_ | refine r_region ?_ | refine r_true rfl ?_)))
    all_goals try (exfalso; first | omega | contradiction)
    all_goals refine r_give 700 0 700 (raw := .glob 0 τ.o0) rfl rfl (upd_ne (upd_same _ (0, 700) _) (by simp)) rfl rfl ?_
    all_goals refine r_give 701 0 701 (raw := .glob 1 τ.o1) rfl rfl (upd_ne (upd_same _ (0, 701) _) (by simp)) rfl rfl ?_
    all_goals exact r_ret Tryd.func4 _ (res_one rfl rfl) ⟨rfl, tabs_back hX0 hX1⟩
  have hr1 := hr1 (by omega)
  have hr2 := hr2 (by omega)
  have hp1 := hp1 (by omega)
  have hp2 := hp2 (by omega)
  cases b1 with
  | false =>
    repeat' (first | (refine k_op1 ?_; (first | refine o_sv rfl (by decide) ?_ | (refine k_bin ?_; (refine o_val (v_add (wi64 (by omega) (by omega))) rfl rfl (by decide) ?_)) | (refine k_blt ?_; (refine o_val (v_lens rfl) rfl rfl (by decide) ?_)) | (refine k_call ?_; (refine o_fn hr1 rfl (by decide) ?_)))) | (refine k_ops ?_; (first | refine o_go (by first | exact .inl rfl | exact .inr ⟨_, _, _, rfl, rfl, rfl⟩) ?_ | refine o_nil ?_ | refine o_no rfl rfl (by decide) ?_ | refine o_casep rfl rfl (fun _ => ?_) (fun _ => ?_))) | (refine k_run ?_; (first | refine r_seq ?_ | refine r_region ?_ | refine r_true rfl ?_)))
    all_goals try (exfalso; first | omega | contradiction)
    all_goals refine r_give 700 0 700 (raw := .glob 0 τ.o0) rfl rfl (upd_ne (upd_same _ (0, 700) _) (by simp)) rfl rfl ?_
    all_goals refine r_give 701 0 701 (raw := .glob 1 τ.o1) rfl rfl (upd_ne (upd_same _ (0, 701) _) (by simp)) rfl rfl ?_
    all_goals exact r_ret Tryd.func4 _ (res_one rfl rfl) ⟨rfl, tabs_back hX0 hX1⟩
  | true =>
    cases b2 with
    | false =>
      repeat' (first | (refine k_op1 ?_; (first | refine o_sv rfl (by decide) ?_ | (refine k_bin ?_; (refine o_val (v_add (wi64 (by omega) (by omega))) rfl rfl (by decide) ?_)) | (refine k_blt ?_; (refine o_val (v_lens rfl) rfl rfl (by decide) ?_)) | (refine k_call ?_; (first | refine o_fn hr1 rfl (by decide) ?_ | refine o_fn hr2 rfl (by decide) ?_)))) | (refine k_ops ?_; (first | refine o_go (by first | exact .inl rfl | exact .inr ⟨_, _, _, rfl, rfl, rfl⟩) ?_ | refine o_nil ?_ | refine o_no rfl rfl (by decide) ?_ | refine o_casep rfl rfl (fun _ => ?_) (fun _ => ?_))) | (refine k_run ?_; (first | refine r_seq ?_ | refine r_region ?_ | refine r_true rfl ?_)))
      all_goals try (exfalso; first | omega | contradiction)
      all_goals refine r_give 700 0 700 (raw := .glob 0 τ.o0) rfl rfl (upd_ne (upd_same _ (0, 700) _) (by simp)) rfl rfl ?_
      all_goals refine r_give 701 0 701 (raw := .glob 1 τ.o1) rfl rfl (upd_ne (upd_same _ (0, 701) _) (by simp)) rfl rfl ?_
      all_goals exact r_ret Tryd.func4 _ (res_one rfl rfl) ⟨rfl, tabs_back hX0 hX1⟩
    | true =>
      have hstay := hstay rfl rfl (by omega)
      repeat' (first | (refine k_op1 ?_; (first | refine o_sv rfl (by decide) ?_ | (refine k_bin ?_; (refine o_val (v_add (wi64 (by omega) (by omega))) rfl rfl (by decide) ?_)) | (refine k_blt ?_; (refine o_val (v_lens rfl) rfl rfl (by decide) ?_)) | (refine k_call ?_; (first | refine o_effd ha rfl rfl (by decide) ?_ | refine o_effd hp2 rfl rfl (by decide) ?_ | refine o_effd hp1 rfl rfl (by decide) ?_ | refine o_fn hr1 rfl (by decide) ?_ | refine o_fn hr2 rfl (by decide) ?_)) | (refine k_store ?_; (refine o_store0 rfl rfl rfl rfl rfl rfl ?_)) | (refine k_alloc ?_; (refine o_does (d_alloc rfl rfl (by decide)) ?_)) | refine o_val (v_sadd (by omega)) rfl rfl (by decide) ?_)) | (refine k_ops ?_; (first | refine o_go (by first | exact .inl rfl | exact .inr ⟨_, _, _, rfl, rfl, rfl⟩) ?_ | refine o_nil ?_ | refine o_no rfl rfl (by decide) ?_ | refine o_casep rfl rfl (fun _ => ?_) (fun _ => ?_) | refine o_casen rfl rfl (fun _ => ?_) (fun _ => ?_))) | (refine k_run ?_; (first | refine r_seq ?_ | refine r_region ?_ | refine r_true rfl ?_ | refine r_false rfl ?_ | refine r_skip ?_ | refine r_if rfl (fun _ => ?_) (fun _ => ?_))))
      all_goals try (exfalso; first | omega | contradiction)
      all_goals try (exfalso; have hq := hstay (by omega) (by omega); omega)
      all_goals refine r_give 700 0 700 (raw := .glob 0 τ.o0) rfl rfl (upd_ne (upd_same _ (0, 700) _) (by simp)) rfl rfl ?_
      all_goals refine r_give 701 0 701 (raw := .glob 1 τ.o1) rfl rfl (upd_ne (upd_same _ (0, 701) _) (by simp)) rfl rfl ?_
      all_goals exact r_ret Tryd.func4 _ (res_one rfl rfl) ⟨rfl, tabs_back hX0 hX1⟩
end Go.Proofs.YtjmbjgecfpggdaaDoor
