/- A law holds for every input; no condition. -/
import Derived.Test.YtiapeheclfkdmaaWi
set_option linter.all false
set_option linter.unusedVariables false
set_option linter.unusedSimpArgs false
namespace Go.Proofs.Ytiapeheclfkdmaa
open Go.Ab Go.Stab
set_option maxHeartbeats 20000000
set_option maxRecDepth 100000
set_option linter.unusedVariables false
set_option linter.unusedSimpArgs false
attribute [local irreducible] Run Ops Op1 Does Val Tr PureF Eff1 NF Rel EffV EffM

def rov (n : Int) : Bool := decide (3 ≤ n ∧ n ≤ 11)
def rin (n : Int) : Bool := decide (n = 6 ∨ n = 7 ∨ n = 9 ∨ n = 10)
def rar (n : Int) : Bool := decide (n = 4 ∨ n = 5 ∨ n = 7 ∨ n = 8)
theorem relN_range (a b : Span) : 0 ≤ relN a b ∧ relN a b ≤ 13 := by
  have hu : ∀ a b : Span, 1 ≤ relU a b ∧ relU a b ≤ 7 := fun a b => by
    unfold relU; repeat' split
    all_goals omega
  have h1 := hu a b
  have h2 := hu b a
  unfold relN; split
  · omega
  · split <;> omega
theorem pair_eq (a b : Span) : a = b ↔ a.1 = b.1 ∧ a.2 = b.2 := ⟨fun h => by rw [h]; exact ⟨rfl, rfl⟩, fun h => Prod.ext h.1 h.2⟩
theorem relN_ok {a b : Span} (ha : okS a = true) (hb : okS b = true) : (rov (relN a b) = (decide (a.1 < b.2) && decide (b.1 < a.2))) ∧ (rin (relN a b) = (decide (a.1 < b.2) && decide (b.1 < a.2) && (decide (b.1 ≤ a.1) && decide (a.2 ≤ b.2)))) ∧ (rar (relN a b) = (decide (a.1 < b.2) && decide (b.1 < a.2) && (decide (a.1 ≤ b.1) && decide (b.2 ≤ a.2)))) := by
  have h0 : ¬ (okS a = false ∨ okS b = false) := by simp [ha, hb]
  simp only [okS, Bool.and_eq_true, decide_eq_true_eq] at ha hb
  rw [relN, if_neg h0]
  by_cases hs : swp a b
  · rw [if_pos hs]
    rw [swp] at hs
    unfold relU
    simp only [pair_eq]
    refine ⟨Bool.eq_iff_iff.2 ?_, Bool.eq_iff_iff.2 ?_, Bool.eq_iff_iff.2 ?_⟩ <;> simp only [rov, rin, rar, Bool.and_eq_true, decide_eq_true_eq] <;> repeat' split
    all_goals omega
  · rw [if_neg hs]
    rw [swp] at hs
    unfold relU
    simp only [pair_eq]
    refine ⟨Bool.eq_iff_iff.2 ?_, Bool.eq_iff_iff.2 ?_, Bool.eq_iff_iff.2 ?_⟩ <;> simp only [rov, rin, rar, Bool.and_eq_true, decide_eq_true_eq] <;> repeat' split
    all_goals omega
theorem rel_over {l : List Span} (h : chk12 l = 0) {s : Span} (hs : okS s = true) : (fnd l s fun _ => true) = pick l (fun t => rov (relN t s)) l.length := by
  obtain ⟨_, ha⟩ := chk_all h
  rw [fnd, if_pos hs, pick]
  refine List.filter_congr fun i hi => ?_
  have h1 := ha i (by simpa using hi)
  rw [(relN_ok (by simp only [okS, Bool.and_eq_true, decide_eq_true_eq]; omega) hs).1]
  simp [ov]
theorem rel_in {l : List Span} (h : chk12 l = 0) {s : Span} (hs : okS s = true) : (fnd l s fun t => decide (s.1 ≤ t.1) && decide (t.2 ≤ s.2)) = pick l (fun t => rin (relN t s)) l.length := by
  obtain ⟨_, ha⟩ := chk_all h
  rw [fnd, if_pos hs, pick]
  refine List.filter_congr fun i hi => ?_
  have h1 := ha i (by simpa using hi)
  rw [(relN_ok (by simp only [okS, Bool.and_eq_true, decide_eq_true_eq]; omega) hs).2.1]
  rfl
theorem rel_ar {l : List Span} (h : chk12 l = 0) {s : Span} (hs : okS s = true) : (fnd l s fun t => decide (t.1 ≤ s.1) && decide (s.2 ≤ t.2)) = pick l (fun t => rar (relN t s)) l.length := by
  obtain ⟨_, ha⟩ := chk_all h
  rw [fnd, if_pos hs, pick]
  refine List.filter_congr fun i hi => ?_
  have h1 := ha i (by simpa using hi)
  rw [(relN_ok (by simp only [okS, Bool.and_eq_true, decide_eq_true_eq]; omega) hs).2.2]
  rfl
theorem rel_one {l : List Span} (h : chk12 l = 0) {s : Span} (hs : okS s = true) : (fnd l (s.1, s.1 + 1) fun _ => true) = stb l s.1 := by
  obtain ⟨_, ha⟩ := chk_all h
  rw [stb_eq h, pick]
  simp only [okS, Bool.and_eq_true, decide_eq_true_eq] at hs
  rw [fnd, if_pos (by simp only [okS, Bool.and_eq_true, decide_eq_true_eq]; omega)]
  refine List.filter_congr fun i hi => ?_
  have h1 := ha i (by simpa using hi)
  rw [Bool.eq_iff_iff]
  simp only [ov, kst, Bool.and_eq_true, decide_eq_true_eq, and_true]; omega
theorem rel_self7 (s : Span) : relN s s = 7 ↔ okS s = true := by
  rw [rel_self]; cases okS s <;> simp
end Go.Proofs.Ytiapeheclfkdmaa
namespace Go.Proofs.Ytiapeheclfkdmaa
open Go.Ab Go.Stab
set_option maxHeartbeats 20000000
set_option maxRecDepth 100000
set_option linter.unusedVariables false
set_option linter.unusedSimpArgs false
attribute [local irreducible] Run Ops Op1 Does Val Tr PureF Eff1 NF Rel EffV EffM

theorem pick_n {l : List Span} {s : Span} {g : Int → Bool} {k : Nat} {t : Span} {n : Int} (ht : l[k]? = some t) (hn : relN t s = n) : pick l (fun t => g (relN t s)) (k + 1) = pick l (fun t => g (relN t s)) k ++ (if g n then [k] else []) := by
  cases h : g n with
  | true => rw [pick_yes ht (by rw [hn]; exact h)]; rfl
  | false => rw [pick_no ht (by rw [hn]; exact h)]; simp
theorem relates_law (l : List Span) (s : Span) (hl : l.length ≤ 9223372036854775807) (hmax : s.2 ≤ 9223372036854775807) : PureF Try.prog 7 [.d (spans l), .d (Dsp s)] (B true) := by
  refine pure_of fun H => ?_
  refine spec_of Try.func7 (by kernel_rfl) rfl (by simp) ?_
  dsimp only [Try.f7]
  by_cases hb : 40 < l.length
  · repeat' (first | (refine k_op1 ?_; (first | refine o_sv rfl (by decide) ?_ | (refine k_blt ?_; (refine o_val (v_lenm rfl) rfl rfl (by decide) ?_)) | (refine k_box ?_; (refine o_does (d_box_d rfl rfl (by decide)) ?_)))) | (refine k_ops ?_; (first | refine o_go (by first | exact .inl rfl | exact .inr ⟨_, _, _, rfl, rfl, rfl⟩) ?_ | refine o_nil ?_)) | (refine k_run ?_; (first | refine r_seq ?_ | refine r_region ?_ | refine r_skip ?_ | refine r_if rfl (fun _ => ?_) (fun _ => ?_))))
    all_goals try (exfalso; omega)
    exact r_ret Try.func7 _ (res_one rfl rfl) ⟨rfl, rfl⟩
  by_cases hc : chk12 l = 0
  · have c1 := built_ok l (by omega) hc
    have c2 := rel_s s s
    cases hs : okS s with
    | false =>
      rw [rel_self, hs, if_pos rfl] at c2
      repeat' (first | (refine k_op1 ?_; (first | refine o_sv rfl (by decide) ?_ | (refine k_load ?_; (refine o_val (v_loadp rfl rfl rfl rfl) rfl rfl (by decide) ?_)) | (refine k_blt ?_; (refine o_val (v_lenm rfl) rfl rfl (by decide) ?_)) | (refine k_call ?_; (first | (refine o_callnT rfl (c1 _) (by decide) rfl (fun r H' h => ⟨_, _, h.1, h.2, rfl, rfl, ?_⟩); refine o_renT 19 600 rfl rfl ?_) | refine o_fn c2 rfl (by decide) ?_ | refine o_fn awake_s rfl (by decide) ?_)) | (refine k_box ?_; (refine o_does (d_box_d rfl rfl (by decide)) ?_)) | refine o_val (v_peq rfl) rfl rfl (by decide) ?_)) | (refine k_ops ?_; (first | refine o_go (by first | exact .inl rfl | exact .inr ⟨_, _, _, rfl, rfl, rfl⟩) ?_ | refine o_nil ?_)) | (refine k_run ?_; (first | refine r_seq ?_ | refine r_region ?_ | refine r_true rfl ?_ | refine r_skip ?_ | refine r_if rfl (fun _ => ?_) (fun _ => ?_))))
      all_goals try (exfalso; omega)
      exact r_ret Try.func7 _ (res_one rfl rfl) ⟨rfl, rfl⟩
    | true =>
      rw [rel_self, hs, if_neg (by simp)] at c2
      repeat' (first | (refine k_op1 ?_; (first | refine o_sv rfl (by decide) ?_ | (refine k_load ?_; (refine o_val (v_loadp rfl rfl rfl rfl) rfl rfl (by decide) ?_)) | (refine k_blt ?_; (refine o_val (v_lenm rfl) rfl rfl (by decide) ?_)) | (refine k_call ?_; (first | (refine o_callnT rfl (c1 _) (by decide) rfl (fun r H' h => ⟨_, _, h.1, h.2, rfl, rfl, ?_⟩); refine o_renT 19 600 rfl rfl ?_) | refine o_fn c2 rfl (by decide) ?_)) | (refine k_box ?_; (refine o_does (d_box_d rfl rfl (by decide)) ?_)) | refine o_val (v_peq rfl) rfl rfl (by decide) ?_)) | (refine k_ops ?_; (first | refine o_go (by first | exact .inl rfl | exact .inr ⟨_, _, _, rfl, rfl, rfl⟩) ?_ | refine o_nil ?_)) | (refine k_run ?_; (first | refine r_seq ?_ | refine r_region ?_ | refine r_false rfl ?_ | refine r_skip ?_ | refine r_block ?_ | refine r_if rfl (fun _ => ?_) (fun _ => ?_))))
      all_goals try (exfalso; omega)
      refine r_slot_row 7 1001 3 1 rfl rfl rfl ?_
      refine r_slot_row 8 1002 3 1 rfl rfl rfl ?_
      refine r_slot_row 9 1003 3 1 rfl rfl rfl ?_
      refine r_loop ?_
      refine r_less (r_inv (fun k : Nat => ⟨133, [(3, .ptr (0, 3) 0), (5, .ptr (0, 600) 0), (38, .d (spans l)), (39, I .i64 l.length), (40, I .i64 (k : Nat)), (7, .ref (0, 1001)), (8, .ref (0, 1002)), (9, .ref (0, 1003))], [(3, .box ((spc s).map .d)), (600, xbox l), (1001, orow (pick l (fun t => rov (relN t s)) k)), (1002, orow (pick l (fun t => rin (relN t s)) k)), (1003, orow (pick l (fun t => rar (relN t s)) k))], H⟩) (fun k => k ≤ l.length) (fun k => l.length - k) ?_ 0 (Nat.zero_le _)) rfl rfl
      intro k h1 ih
      by_cases hlt : k < l.length
      · obtain ⟨t, ht⟩ : ∃ t, l[k]? = some t := ⟨_, List.getElem?_eq_getElem hlt⟩
        have p1 := pick_len l (fun t => rov (relN t s)) k
        have p2 := pick_len l (fun t => rin (relN t s)) k
        have p3 := pick_len l (fun t => rar (relN t s)) k
        have c3 := rel_s t s
        have hr := relN_range t s
        have ih' := ih (k + 1) (by omega) (by omega)
        obtain ⟨n, hn⟩ : ∃ n, relN t s = n := ⟨_, rfl⟩
        rw [hn] at hr c3
        rw [pick_n ht hn, pick_n ht hn, pick_n ht hn] at ih'
        have hcase : n = 0 ∨ n = 1 ∨ n = 2 ∨ n = 3 ∨ n = 4 ∨ n = 5 ∨ n = 6 ∨ n = 7 ∨ n = 8 ∨ n = 9 ∨ n = 10 ∨ n = 11 ∨ n = 12 ∨ n = 13 := by omega
        clear hn hr ih
        rcases hcase with rfl | rfl | rfl | rfl | rfl | rfl | rfl | rfl | rfl | rfl | rfl | rfl | rfl | rfl
        all_goals simp only [show rov 0 = false from rfl, show rin 0 = false from rfl, show rar 0 = false from rfl, show rov 1 = false from rfl, show rin 1 = false from rfl, show rar 1 = false from rfl, show rov 2 = false from rfl, show rin 2 = false from rfl, show rar 2 = false from rfl, show rov 3 = true from rfl, show rin 3 = false from rfl, show rar 3 = false from rfl, show rov 4 = true from rfl, show rin 4 = false from rfl, show rar 4 = true from rfl, show rov 5 = true from rfl, show rin 5 = false from rfl, show rar 5 = true from rfl, show rov 6 = true from rfl, show rin 6 = true from rfl, show rar 6 = false from rfl, show rov 7 = true from rfl, show rin 7 = true from rfl, show rar 7 = true from rfl, show rov 8 = true from rfl, show rin 8 = false from rfl, show rar 8 = true from rfl, show rov 9 = true from rfl, show rin 9 = true from rfl, show rar 9 = false from rfl, show rov 10 = true from rfl, show rin 10 = true from rfl, show rar 10 = false from rfl, show rov 11 = true from rfl, show rin 11 = false from rfl, show rar 11 = false from rfl, show rov 12 = false from rfl, show rin 12 = false from rfl, show rar 12 = false from rfl, show rov 13 = false from rfl, show rin 13 = false from rfl, show rar 13 = false from rfl, Bool.false_eq_true, if_false, if_true, List.append_nil] at ih'
        all_goals
          repeat' (first | (refine k_op1 ?_; (first | refine o_sv rfl (by decide) ?_ | (refine k_load ?_; (first | refine o_val (v_loada rfl rfl rfl) rfl rfl (by decide) ?_ | refine o_val (v_load rfl rfl rfl rfl) rfl rfl (by decide) ?_ | refine o_val (v_loadea rfl rfl) rfl rfl (by decide) ?_ | refine o_val (v_loadp rfl rfl rfl rfl) rfl rfl (by decide) ?_)) | (refine k_field ?_; (refine o_val (v_field rfl rfl) rfl rfl (by decide) ?_)) | (refine k_index ?_; (refine o_val (v_index (ys := l.map spc) rfl (by omega) (idx ht) rfl) rfl rfl (by decide) ?_)) | (refine k_bin ?_; (refine o_val (v_add (wi64 (by omega) (by omega))) rfl rfl (by decide) ?_)) | (refine k_blt ?_; (refine o_app1 (g := fun i : Nat => [Dint (i : Nat)]) rfl rfl k rfl rfl rfl rfl rfl rfl rfl (by decide) (by omega) ?_)) | (refine k_call ?_; (refine o_fn c3 rfl (by decide) ?_)) | (refine k_store ?_; (refine o_store0 rfl rfl rfl rfl rfl rfl ?_)) | (refine k_alloc ?_; (refine o_does (d_alloc rfl rfl (by decide)) ?_)) | (refine k_build ?_; (refine o_build rfl rfl rfl rfl rfl rfl rfl (by decide) ?_)) | (refine k_lit ?_; (refine o_lit rfl rfl rfl rfl rfl rfl rfl rfl (by decide) ?_)))) | (refine k_ops ?_; (first | refine o_go (by first | exact .inl rfl | exact .inr ⟨_, _, _, rfl, rfl, rfl⟩) ?_ | refine o_nil ?_ | refine o_no rfl rfl (by decide) ?_)) | (refine k_run ?_; (first | refine r_seq ?_ | refine r_region ?_ | refine r_true rfl ?_ | refine r_false rfl ?_ | refine r_skip ?_ | refine r_block ?_ | refine r_tr ?_ | refine r_inBlock ?_ | refine r_if rfl (fun _ => ?_) (fun _ => ?_) | refine r_exit rfl ?_)) | (refine k_tr ?_; (first | refine t_sv rfl (by first | exact rfl | exact ⟨_, rfl, rfl, rfl⟩) (by decide) ?_ | (refine kt_load ?_; (refine t_val (v_loada rfl rfl rfl) (by first | exact rfl | exact ⟨_, rfl, rfl, rfl⟩) rfl rfl (by decide) ?_)))))
        all_goals try (exfalso; omega)
        all_goals
          (try refine r_ren 57 1001 rfl rfl ?_)
          (try refine r_ren 75 1002 rfl rfl ?_)
          (try refine r_ren 93 1003 rfl rfl ?_)
          exact r_less ih' rfl rfl
      · obtain rfl : k = l.length := by omega
        clear ih
        have d1 := overlap_s (X := 600) 0 l s (by omega)
        have d2 := inside_s (X := 600) 0 l s (by omega)
        have d3 := around_s (X := 600) 0 l s (by omega)
        have d4 := overlap_s (X := 600) 0 l (s.1, s.1 + 1) (by omega)
        have d5 := stab_s (X := 600) 0 l s.1 (by omega)
        have p1 := pick_len l (fun t => rov (relN t s)) l.length
        have p2 := pick_len l (fun t => rin (relN t s)) l.length
        have p3 := pick_len l (fun t => rar (relN t s)) l.length
        have p4 := stb_len l s.1
        rw [rel_over hc hs] at d1
        rw [rel_in hc hs] at d2
        rw [rel_ar hc hs] at d3
        rw [rel_one hc hs] at d4
        have e1 := same_refl (pick l (fun t => rov (relN t s)) l.length) (by omega)
        have e2 := same_refl (pick l (fun t => rin (relN t s)) l.length) (by omega)
        have e3 := same_refl (pick l (fun t => rar (relN t s)) l.length) (by omega)
        have e4 := same_refl (stb l s.1) (by omega)
        have hs2 := hs
        simp only [okS, Bool.and_eq_true, decide_eq_true_eq] at hs2
        refine r_freeze 1001 rfl ?_
        refine r_freeze 1002 rfl ?_
        refine r_freeze 1003 rfl ?_
        repeat' (first | (refine k_op1 ?_; (first | refine o_sv rfl (by decide) ?_ | (refine k_load ?_; (refine o_val (v_load rfl rfl rfl rfl) rfl rfl (by decide) ?_)) | (refine k_field ?_; (refine o_val (v_field rfl rfl) rfl rfl (by decide) ?_)) | (refine k_bin ?_; (refine o_val (v_add (wi64 (by omega) (by omega))) rfl rfl (by decide) ?_)) | (refine k_store ?_; (refine o_store0 rfl rfl rfl rfl rfl rfl ?_)) | (refine k_alloc ?_; (refine o_does (d_alloc rfl rfl (by decide)) ?_)) | (refine k_build ?_; (refine o_build rfl rfl rfl rfl rfl rfl rfl (by decide) ?_)))) | (refine k_ops ?_; (first | refine o_go (by first | exact .inl rfl | exact .inr ⟨_, _, _, rfl, rfl, rfl⟩) ?_ | refine o_nil ?_)) | (refine k_run ?_; (first | refine r_seq ?_ | refine r_region ?_ | refine r_skip ?_ | refine r_block ?_ | refine r_tr ?_ | refine r_if rfl (fun _ => ?_) (fun _ => ?_) | refine r_exit rfl ?_)) | (refine k_tr ?_; (first | (refine kt_end ?_; refine t_end mix (by kernel_rfl) ?_) | refine t_sv rfl (by first | exact rfl | exact ⟨_, rfl, rfl, rfl⟩) (by decide) ?_ | (refine kt_load ?_; (first | refine t_val (v_load rfl rfl rfl rfl) (by first | exact rfl | exact ⟨_, rfl, rfl, rfl⟩) rfl rfl (by decide) ?_ | refine t_val (v_loadp rfl rfl rfl rfl) (by first | exact rfl | exact ⟨_, rfl, rfl, rfl⟩) rfl rfl (by decide) ?_)) | (refine kt_field ?_; (refine t_val (v_field rfl rfl) (by first | exact rfl | exact ⟨_, rfl, rfl, rfl⟩) rfl rfl (by decide) ?_)) | (refine kt_call ?_; (first | refine t_effd d1 (by first | exact rfl | exact ⟨_, rfl, rfl, rfl⟩) rfl rfl (by decide) ?_ | refine t_effd d2 (by first | exact rfl | exact ⟨_, rfl, rfl, rfl⟩) rfl rfl (by decide) ?_ | refine t_effd d3 (by first | exact rfl | exact ⟨_, rfl, rfl, rfl⟩) rfl rfl (by decide) ?_ | refine t_effd d4 (by first | exact rfl | exact ⟨_, rfl, rfl, rfl⟩) rfl rfl (by decide) ?_ | refine t_effd d5 (by first | exact rfl | exact ⟨_, rfl, rfl, rfl⟩) rfl rfl (by decide) ?_ | refine t_fn e1 (by first | exact rfl | exact ⟨_, rfl, rfl, rfl⟩) rfl (by decide) ?_ | refine t_fn e2 (by first | exact rfl | exact ⟨_, rfl, rfl, rfl⟩) rfl (by decide) ?_ | refine t_fn e3 (by first | exact rfl | exact ⟨_, rfl, rfl, rfl⟩) rfl (by decide) ?_ | refine t_fn e4 (by first | exact rfl | exact ⟨_, rfl, rfl, rfl⟩) rfl (by decide) ?_ | refine t_fn awake_s (by first | exact rfl | exact ⟨_, rfl, rfl, rfl⟩) rfl (by decide) ?_)))))
        all_goals try (exfalso; omega)
        exact r_ret Try.func7 _ (res_one rfl rfl) ⟨rfl, rfl⟩
  · have c1 := built_bad l (by omega) hc
    repeat' (first | (refine k_op1 ?_; (first | refine o_sv rfl (by decide) ?_ | (refine k_blt ?_; (refine o_val (v_lenm rfl) rfl rfl (by decide) ?_)) | (refine k_call ?_; (first | refine o_fn c1 rfl (by decide) ?_ | refine o_fn awake_s rfl (by decide) ?_)) | (refine k_box ?_; (refine o_does (d_box_d rfl rfl (by decide)) ?_)) | refine o_val (v_pnileq rfl) rfl rfl (by decide) ?_)) | (refine k_ops ?_; (first | refine o_go (by first | exact .inl rfl | exact .inr ⟨_, _, _, rfl, rfl, rfl⟩) ?_ | refine o_nil ?_ | refine o_no rfl rfl (by decide) ?_)) | (refine k_run ?_; (first | refine r_seq ?_ | refine r_region ?_ | refine r_true rfl ?_ | refine r_skip ?_ | refine r_if rfl (fun _ => ?_) (fun _ => ?_))))
    all_goals try (exfalso; omega)
    exact r_ret Try.func7 _ (res_one rfl rfl) ⟨rfl, rfl⟩
end Go.Proofs.Ytiapeheclfkdmaa
