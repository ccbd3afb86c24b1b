/- What the reference answers, and the first laws, for every input. -/
import Derived.Test.YtiapeheclfkdmaaWf
import Derived.Test.YtiapeheclfkdmaaFg
set_option linter.all false
set_option linter.unusedVariables false
set_option linter.unusedSimpArgs false
namespace Go.Proofs.Ytiapeheclfkdmaa
open Go.Ab Go.Stab
set_option maxHeartbeats 20000000
set_option maxRecDepth 100000
set_option linter.unusedVariables false
set_option linter.unusedSimpArgs false
attribute [local irreducible] Run Ops Op1 Does Val Tr PureF Eff1 NF Rel EffV EffM

theorem take_succ' {α : Type} {l : List α} {k : Nat} {x : α} (h : l[k]? = some x) : l.take (k + 1) = l.take k ++ [x] := by
  rw [List.take_add_one, h]; rfl
theorem same_s (a b : List Nat) (ha : a.length ≤ 1000000) (hb : b.length ≤ 1000000) : PureF Try.prog 13 [.d (nats a), .d (nats b)] (B (decide (a = b))) := by
  refine pure_of fun H => ?_
  refine spec_of Try.func13 (by kernel_rfl) rfl (by simp) ?_
  dsimp only [Try.f13]
  by_cases hl : a.length = b.length
  · repeat' (first | (refine k_op1 ?_; (first | refine o_sv rfl (by decide) ?_ | (refine k_blt ?_; (refine o_val (v_lenm rfl) rfl rfl (by decide) ?_)))) | (refine k_ops ?_; (first | refine o_go (by first | exact .inl rfl | exact .inr ⟨_, _, _, rfl, rfl, rfl⟩) ?_ | refine o_nil ?_)) | (refine k_run ?_; (first | refine r_seq ?_ | refine r_region ?_ | refine r_skip ?_ | refine r_block ?_ | refine r_ifn rfl (fun _ => ?_) (fun _ => ?_))))
    all_goals try (exfalso; omega)
    refine r_loop ?_
    refine r_less (r_inv (fun k : Nat => ⟨26, [(0, .d (nats a)), (1, .d (nats b)), (12, I .i64 a.length), (13, I .i64 (k : Nat))], [], H⟩) (fun k => k ≤ a.length ∧ a.take k = b.take k) (fun k => a.length - k) ?_ 0 ⟨Nat.zero_le _, rfl⟩) rfl rfl
    intro k ⟨h1, h2⟩ ih
    by_cases hlt : k < a.length
    · obtain ⟨x, hx⟩ : ∃ x, a[k]? = some x := ⟨_, List.getElem?_eq_getElem hlt⟩
      obtain ⟨y, hy⟩ : ∃ y, b[k]? = some y := ⟨_, List.getElem?_eq_getElem (by omega)⟩
      by_cases hxy : x = y
      · repeat' (first | (refine k_op1 ?_; (first | refine o_sv rfl (by decide) ?_ | (refine k_bin ?_; (refine o_val (v_add (wi64 (by omega) (by omega))) rfl rfl (by decide) ?_)))) | (refine k_ops ?_; (first | refine o_go (by first | exact .inl rfl | exact .inr ⟨_, _, _, rfl, rfl, rfl⟩) ?_ | refine o_nil ?_)) | (refine k_run ?_; (first | refine r_seq ?_ | refine r_region ?_ | refine r_skip ?_ | refine r_block ?_ | refine r_tr ?_ | refine r_inBlock ?_ | refine r_if rfl (fun _ => ?_) (fun _ => ?_) | refine r_ifn rfl (fun _ => ?_) (fun _ => ?_) | refine r_exit rfl ?_)) | (refine k_tr ?_; (first | (refine kt_end ?_; refine t_end mix (by kernel_rfl) ?_) | refine t_sv rfl (by first | exact rfl | exact ⟨_, rfl, rfl, rfl⟩) (by decide) ?_ | (refine kt_load ?_; (refine t_val (v_loade rfl rfl rfl) (by first | exact rfl | exact ⟨_, rfl, rfl, rfl⟩) rfl rfl (by decide) ?_)) | (refine kt_index ?_; (first | refine t_val (v_index (ys := a.map fun i : Nat => [Dint (i : Nat)]) rfl (by omega) (idx hx) rfl) (by first | exact rfl | exact ⟨_, rfl, rfl, rfl⟩) rfl rfl (by decide) ?_ | refine t_val (v_index (ys := b.map fun i : Nat => [Dint (i : Nat)]) rfl (by omega) (idx hy) rfl) (by first | exact rfl | exact ⟨_, rfl, rfl, rfl⟩) rfl rfl (by decide) ?_)))))
        all_goals try (exfalso; omega)
        exact r_less (ih (k + 1) ⟨by omega, by rw [take_succ' hx, take_succ' hy, h2, hxy]⟩ (by omega)) rfl rfl
      · have hne : decide (a = b) = false := by
          rw [decide_eq_false_iff_not]; rintro rfl; rw [hx] at hy; exact hxy (by simpa using hy)
        rw [hne]
        repeat' (first | (refine k_op1 ?_; (first | refine o_sv rfl (by decide) ?_ | (refine k_bin ?_; (refine o_val (v_add (wi64 (by omega) (by omega))) rfl rfl (by decide) ?_)))) | (refine k_ops ?_; (first | refine o_go (by first | exact .inl rfl | exact .inr ⟨_, _, _, rfl, rfl, rfl⟩) ?_ | refine o_nil ?_)) | (refine k_run ?_; (first | refine r_seq ?_ | refine r_region ?_ | refine r_skip ?_ | refine r_block ?_ | refine r_tr ?_ | refine r_inBlock ?_ | refine r_if rfl (fun _ => ?_) (fun _ => ?_) | refine r_ifn rfl (fun _ => ?_) (fun _ => ?_) | refine r_exit rfl ?_)) | (refine k_tr ?_; (first | (refine kt_end ?_; refine t_end mix (by kernel_rfl) ?_) | refine t_sv rfl (by first | exact rfl | exact ⟨_, rfl, rfl, rfl⟩) (by decide) ?_ | (refine kt_load ?_; (refine t_val (v_loade rfl rfl rfl) (by first | exact rfl | exact ⟨_, rfl, rfl, rfl⟩) rfl rfl (by decide) ?_)) | (refine kt_index ?_; (first | refine t_val (v_index (ys := a.map fun i : Nat => [Dint (i : Nat)]) rfl (by omega) (idx hx) rfl) (by first | exact rfl | exact ⟨_, rfl, rfl, rfl⟩) rfl rfl (by decide) ?_ | refine t_val (v_index (ys := b.map fun i : Nat => [Dint (i : Nat)]) rfl (by omega) (idx hy) rfl) (by first | exact rfl | exact ⟨_, rfl, rfl, rfl⟩) rfl rfl (by decide) ?_)))))
        all_goals try (exfalso; omega)
        exact r_ret Try.func13 _ (res_one rfl rfl) ⟨rfl, rfl⟩
    · obtain rfl : k = a.length := by omega
      have hab : a = b := by rw [List.take_length] at h2; rw [h2, hl, List.take_length]
      have he : decide (a = b) = true := decide_eq_true hab
      rw [he]
      repeat' (first | (refine k_op1 ?_; (refine o_sv rfl (by decide) ?_)) | (refine k_ops ?_; (first | refine o_go (by first | exact .inl rfl | exact .inr ⟨_, _, _, rfl, rfl, rfl⟩) ?_ | refine o_nil ?_)) | (refine k_run ?_; (first | refine r_seq ?_ | refine r_region ?_ | refine r_skip ?_ | refine r_block ?_ | refine r_tr ?_ | refine r_if rfl (fun _ => ?_) (fun _ => ?_) | refine r_exit rfl ?_)) | (refine k_tr ?_; (refine t_sv rfl (by first | exact rfl | exact ⟨_, rfl, rfl, rfl⟩) (by decide) ?_)))
      all_goals try (exfalso; omega)
      exact r_ret Try.func13 _ (res_one rfl rfl) ⟨rfl, rfl⟩
  · have hne : decide (a = b) = false := by
      rw [decide_eq_false_iff_not]; rintro rfl; exact hl rfl
    rw [hne]
    repeat' (first | (refine k_op1 ?_; (first | refine o_sv rfl (by decide) ?_ | (refine k_blt ?_; (refine o_val (v_lenm rfl) rfl rfl (by decide) ?_)))) | (refine k_ops ?_; (first | refine o_go (by first | exact .inl rfl | exact .inr ⟨_, _, _, rfl, rfl, rfl⟩) ?_ | refine o_nil ?_)) | (refine k_run ?_; (first | refine r_seq ?_ | refine r_region ?_ | refine r_skip ?_ | refine r_block ?_ | refine r_ifn rfl (fun _ => ?_) (fun _ => ?_))))
    all_goals try (exfalso; omega)
    exact r_ret Try.func13 _ (res_one rfl rfl) ⟨rfl, rfl⟩
def kst (p : Int) (t : Span) : Bool := decide (t.1 ≤ p) && decide (p < t.2)
def pick (l : List Span) (kp : Span → Bool) (k : Nat) : List Nat := (List.range k).filter fun i => kp (l.getD i (0, 0))
theorem pick_yes {l : List Span} {kp : Span → Bool} {k : Nat} {t : Span} (ht : l[k]? = some t) (h : kp t = true) : pick l kp (k + 1) = pick l kp k ++ [k] := by
  rw [pick, List.range_succ, List.filter_append]
  have : kp (l.getD k (0, 0)) = true := by rw [getD_some ht]; exact h
  simp only [List.filter_cons, List.filter_nil, this, if_true]; rfl
theorem pick_no {l : List Span} {kp : Span → Bool} {k : Nat} {t : Span} (ht : l[k]? = some t) (h : kp t = false) : pick l kp (k + 1) = pick l kp k := by
  rw [pick, List.range_succ, List.filter_append]
  have : kp (l.getD k (0, 0)) = false := by rw [getD_some ht]; exact h
  simp only [List.filter_cons, List.filter_nil, this, Bool.false_eq_true, if_false, List.append_nil]; rfl
theorem pick_len (l : List Span) (kp : Span → Bool) (k : Nat) : (pick l kp k).length ≤ k := by
  have := List.length_filter_le (fun i => kp (l.getD i (0, 0))) (List.range k)
  simpa [pick] using this
theorem rstab_s (l : List Span) (p : Int) (hl : l.length ≤ 1000000) : PureF Try.prog 15 [.d (spans l), .d (Dint p)] (.d (nats (pick l (kst p) l.length))) := by
  refine pure_of fun H => ?_
  refine spec_of Try.func15 (by kernel_rfl) rfl (by simp) ?_
  dsimp only [Try.f15]
  repeat' (first | (refine k_op1 ?_; (first | refine o_sv rfl (by decide) ?_ | (refine k_blt ?_; (refine o_val (v_lenm rfl) rfl rfl (by decide) ?_)))) | (refine k_ops ?_; (first | refine o_go (by first | exact .inl rfl | exact .inr ⟨_, _, _, rfl, rfl, rfl⟩) ?_ | refine o_nil ?_)) | (refine k_run ?_; (first | refine r_seq ?_ | refine r_region ?_ | refine r_block ?_)))
  all_goals try (exfalso; omega)
  refine r_slot_row 5 1000 3 1 rfl rfl rfl ?_
  refine r_loop ?_
  refine r_less (r_inv (fun k : Nat => ⟨31, [(1, I .i64 p), (8, .d (spans l)), (9, I .i64 l.length), (10, I .i64 (k : Nat)), (5, .ref (0, 1000))], [(1000, orow (pick l (kst p) k))], H⟩) (fun k => k ≤ l.length) (fun k => l.length - k) ?_ 0 (Nat.zero_le _)) rfl rfl
  intro k h1 ih
  by_cases hlt : k < l.length
  · obtain ⟨t, ht⟩ : ∃ t, l[k]? = some t := ⟨_, List.getElem?_eq_getElem hlt⟩
    have hpl := pick_len l (kst p) k
    by_cases ha : t.1 ≤ p
    · by_cases hb : p < t.2
      · have hk : kst p t = true := by simp [kst, ha, hb]
        repeat' (first | (refine k_op1 ?_; (first | refine o_sv rfl (by decide) ?_ | (refine k_load ?_; (first | refine o_val (v_load rfl rfl rfl rfl) rfl rfl (by decide) ?_ | refine o_val (v_loadea rfl rfl) rfl rfl (by decide) ?_)) | (refine k_field ?_; (refine o_val (v_field rfl rfl) rfl rfl (by decide) ?_)) | (refine k_index ?_; (refine o_val (v_index (ys := l.map spc) rfl (by omega) (idx ht) rfl) rfl rfl (by decide) ?_)) | (refine k_bin ?_; (refine o_val (v_add (wi64 (by omega) (by omega))) rfl rfl (by decide) ?_)) | (refine k_blt ?_; (refine o_app1 (g := fun i : Nat => [Dint (i : Nat)]) rfl rfl k rfl rfl rfl rfl rfl rfl rfl (by decide) (by omega) ?_)) | (refine k_store ?_; (refine o_store0 rfl rfl rfl rfl rfl rfl ?_)) | (refine k_alloc ?_; (refine o_does (d_alloc rfl rfl (by decide)) ?_)) | (refine k_lit ?_; (refine o_lit rfl rfl rfl rfl rfl rfl rfl rfl (by decide) ?_)))) | (refine k_ops ?_; (first | refine o_go (by first | exact .inl rfl | exact .inr ⟨_, _, _, rfl, rfl, rfl⟩) ?_ | refine o_nil ?_ | refine o_no rfl rfl (by decide) ?_ | refine o_casep rfl rfl (fun _ => ?_) (fun _ => ?_))) | (refine k_run ?_; (first | refine r_seq ?_ | refine r_region ?_ | refine r_false rfl ?_ | refine r_skip ?_ | refine r_block ?_ | refine r_inBlock ?_ | refine r_if rfl (fun _ => ?_) (fun _ => ?_) | refine r_exit rfl ?_)))
        all_goals try (exfalso; omega)
        refine r_ren 28 1000 rfl rfl ?_
        refine r_less (ih (k + 1) (by omega) (by omega)) rfl ?_
        rw [pick_yes ht hk]; rfl
      · have hk : kst p t = false := by simp [kst, hb]
        repeat' (first | (refine k_op1 ?_; (first | refine o_sv rfl (by decide) ?_ | (refine k_load ?_; (first | refine o_val (v_load rfl rfl rfl rfl) rfl rfl (by decide) ?_ | refine o_val (v_loadea rfl rfl) rfl rfl (by decide) ?_)) | (refine k_field ?_; (refine o_val (v_field rfl rfl) rfl rfl (by decide) ?_)) | (refine k_index ?_; (refine o_val (v_index (ys := l.map spc) rfl (by omega) (idx ht) rfl) rfl rfl (by decide) ?_)) | (refine k_bin ?_; (refine o_val (v_add (wi64 (by omega) (by omega))) rfl rfl (by decide) ?_)) | (refine k_blt ?_; (refine o_app1 rfl rfl _ rfl rfl rfl rfl rfl rfl rfl (by decide) (by omega) ?_)) | (refine k_store ?_; (refine o_store0 rfl rfl rfl rfl rfl rfl ?_)) | (refine k_alloc ?_; (refine o_does (d_alloc rfl rfl (by decide)) ?_)) | (refine k_lit ?_; (refine o_lit rfl rfl rfl rfl rfl rfl rfl rfl (by decide) ?_)))) | (refine k_ops ?_; (first | refine o_go (by first | exact .inl rfl | exact .inr ⟨_, _, _, rfl, rfl, rfl⟩) ?_ | refine o_nil ?_ | refine o_no rfl rfl (by decide) ?_ | refine o_casep rfl rfl (fun _ => ?_) (fun _ => ?_))) | (refine k_run ?_; (first | refine r_seq ?_ | refine r_region ?_ | refine r_false rfl ?_ | refine r_skip ?_ | refine r_block ?_ | refine r_inBlock ?_ | refine r_if rfl (fun _ => ?_) (fun _ => ?_) | refine r_exit rfl ?_)))
        all_goals try (exfalso; omega)
        refine r_less (ih (k + 1) (by omega) (by omega)) rfl ?_
        rw [pick_no ht hk]; rfl
    · have hk : kst p t = false := by simp [kst, ha]
      repeat' (first | (refine k_op1 ?_; (first | refine o_sv rfl (by decide) ?_ | (refine k_load ?_; (first | refine o_val (v_load rfl rfl rfl rfl) rfl rfl (by decide) ?_ | refine o_val (v_loadea rfl rfl) rfl rfl (by decide) ?_)) | (refine k_field ?_; (refine o_val (v_field rfl rfl) rfl rfl (by decide) ?_)) | (refine k_index ?_; (refine o_val (v_index (ys := l.map spc) rfl (by omega) (idx ht) rfl) rfl rfl (by decide) ?_)) | (refine k_bin ?_; (refine o_val (v_add (wi64 (by omega) (by omega))) rfl rfl (by decide) ?_)) | (refine k_blt ?_; (refine o_app1 rfl rfl _ rfl rfl rfl rfl rfl rfl rfl (by decide) (by omega) ?_)) | (refine k_store ?_; (refine o_store0 rfl rfl rfl rfl rfl rfl ?_)) | (refine k_alloc ?_; (refine o_does (d_alloc rfl rfl (by decide)) ?_)) | (refine k_lit ?_; (refine o_lit rfl rfl rfl rfl rfl rfl rfl rfl (by decide) ?_)))) | (refine k_ops ?_; (first | refine o_go (by first | exact .inl rfl | exact .inr ⟨_, _, _, rfl, rfl, rfl⟩) ?_ | refine o_nil ?_ | refine o_no rfl rfl (by decide) ?_ | refine o_casep rfl rfl (fun _ => ?_) (fun _ => ?_))) | (refine k_run ?_; (first | refine r_seq ?_ | refine r_region ?_ | refine r_false rfl ?_ | refine r_skip ?_ | refine r_block ?_ | refine r_inBlock ?_ | refine r_if rfl (fun _ => ?_) (fun _ => ?_) | refine r_exit rfl ?_)))
      all_goals try (exfalso; omega)
      refine r_less (ih (k + 1) (by omega) (by omega)) rfl ?_
      rw [pick_no ht hk]; rfl
  · obtain rfl : k = l.length := by omega
    repeat' (first | (refine k_op1 ?_; (refine o_sv rfl (by decide) ?_)) | (refine k_ops ?_; (first | refine o_go (by first | exact .inl rfl | exact .inr ⟨_, _, _, rfl, rfl, rfl⟩) ?_ | refine o_nil ?_)) | (refine k_run ?_; (first | refine r_seq ?_ | refine r_region ?_ | refine r_skip ?_ | refine r_block ?_ | refine r_if rfl (fun _ => ?_) (fun _ => ?_) | refine r_exit rfl ?_)))
    all_goals try (exfalso; omega)
    refine r_freeze 1000 rfl ?_
    exact r_ret Try.func15 _ (res_one rfl rfl) ⟨rfl, rfl⟩
def kask (how : Int) (s t : Span) : Bool := if how = 1 then ovS t s else if how = 2 then conS s t else conS t s
def rask (l : List Span) (s : Span) (how : Int) : List Nat := if okS s = true then pick l (kask how s) l.length else []
theorem rask_s (l : List Span) (s : Span) (how : Int) (hh : how = 1 ∨ how = 2 ∨ how = 3) (hl : l.length ≤ 1000000) : PureF Try.prog 18 [.d (spans l), .d (Dsp s), .d (Dint how)] (.d (nats (rask l s how))) := by
  refine pure_of fun H => ?_
  refine spec_of Try.func18 (by kernel_rfl) rfl (by simp) ?_
  dsimp only [Try.f18]
  have hv := rvalid_s s
  cases hok : okS s with
  | false =>
    rw [rask, hok, if_neg (by simp)]
    rw [hok] at hv
    repeat' (first | (refine k_op1 ?_; (first | refine o_sv rfl (by decide) ?_ | (refine k_load ?_; (refine o_val (v_loada rfl rfl rfl) rfl rfl (by decide) ?_)) | (refine k_call ?_; (refine o_fn hv rfl (by decide) ?_)) | (refine k_box ?_; (refine o_does (d_box_d rfl rfl (by decide)) ?_)))) | (refine k_ops ?_; (first | refine o_go (by first | exact .inl rfl | exact .inr ⟨_, _, _, rfl, rfl, rfl⟩) ?_ | refine o_nil ?_)) | (refine k_run ?_; (first | refine r_seq ?_ | refine r_region ?_ | refine r_true rfl ?_)))
    all_goals try (exfalso; omega)
    refine r_nil 6 rfl ?_
    exact r_ret Try.func18 _ (res_one rfl rfl) ⟨rfl, rfl⟩
  | true =>
    rw [rask, hok, if_pos rfl]
    rw [hok] at hv
    repeat' (first | (refine k_op1 ?_; (first | refine o_sv rfl (by decide) ?_ | (refine k_load ?_; (refine o_val (v_loada rfl rfl rfl) rfl rfl (by decide) ?_)) | (refine k_blt ?_; (refine o_val (v_lenm rfl) rfl rfl (by decide) ?_)) | (refine k_call ?_; (refine o_fn hv rfl (by decide) ?_)) | (refine k_box ?_; (refine o_does (d_box_d rfl rfl (by decide)) ?_)))) | (refine k_ops ?_; (first | refine o_go (by first | exact .inl rfl | exact .inr ⟨_, _, _, rfl, rfl, rfl⟩) ?_ | refine o_nil ?_)) | (refine k_run ?_; (first | refine r_seq ?_ | refine r_region ?_ | refine r_false rfl ?_ | refine r_skip ?_ | refine r_block ?_)))
    all_goals try (exfalso; omega)
    refine r_slot_row 7 1000 3 1 rfl rfl rfl ?_
    refine r_loop ?_
    refine r_less (r_inv (fun k : Nat => ⟨44, [(2, I .i64 how), (4, .ptr (0, 4) 0), (14, .d (spans l)), (15, I .i64 l.length), (16, I .i64 (k : Nat)), (7, .ref (0, 1000))], [(4, .box ((spc s).map .d)), (1000, orow (pick l (kask how s) k))], H⟩) (fun k => k ≤ l.length) (fun k => l.length - k) ?_ 0 (Nat.zero_le _)) rfl rfl
    intro k h1 ih
    by_cases hlt : k < l.length
    · obtain ⟨t, ht⟩ : ∃ t, l[k]? = some t := ⟨_, List.getElem?_eq_getElem hlt⟩
      have hpl := pick_len l (kask how s) k
      have c1 := rover_s t s
      have c2 := rcon_s s t
      have c3 := rcon_s t s
      have hc : ∀ b, kask how s t = b → (how = 1 → ovS t s = b) ∧ (how = 2 → conS s t = b) ∧ (how = 3 → conS t s = b) := by
        rintro b rfl
        refine ⟨fun h => by rw [kask, if_pos h], fun h => by rw [kask, if_neg (by omega), if_pos h], fun h => by rw [kask, if_neg (by omega), if_neg (by omega)]⟩
      cases hk : kask how s t with
      | true =>
        obtain ⟨q1, q2, q3⟩ := hc _ hk
        rcases hh with rfl | rfl | rfl
        · rw [q1 rfl] at c1
          repeat' (first | (refine k_op1 ?_; (first | refine o_sv rfl (by decide) ?_ | (refine k_load ?_; (first | refine o_val (v_loada rfl rfl rfl) rfl rfl (by decide) ?_ | refine o_val (v_loadea rfl rfl) rfl rfl (by decide) ?_ | refine o_val (v_loadp rfl rfl rfl rfl) rfl rfl (by decide) ?_)) | (refine k_index ?_; (refine o_val (v_index (ys := l.map spc) rfl (by omega) (idx ht) rfl) rfl rfl (by decide) ?_)) | (refine k_bin ?_; (refine o_val (v_add (wi64 (by omega) (by omega))) rfl rfl (by decide) ?_)) | (refine k_blt ?_; (refine o_app1 (g := fun i : Nat => [Dint (i : Nat)]) rfl rfl k rfl rfl rfl rfl rfl rfl rfl (by decide) (by omega) ?_)) | (refine k_call ?_; (refine o_fn c1 rfl (by decide) ?_)) | (refine k_store ?_; (refine o_store0 rfl rfl rfl rfl rfl rfl ?_)) | (refine k_alloc ?_; (refine o_does (d_alloc rfl rfl (by decide)) ?_)) | (refine k_lit ?_; (refine o_lit rfl rfl rfl rfl rfl rfl rfl rfl (by decide) ?_)))) | (refine k_ops ?_; (first | refine o_go (by first | exact .inl rfl | exact .inr ⟨_, _, _, rfl, rfl, rfl⟩) ?_ | refine o_nil ?_)) | (refine k_run ?_; (first | refine r_seq ?_ | refine r_region ?_ | refine r_true rfl ?_ | refine r_skip ?_ | refine r_block ?_ | refine r_inBlock ?_ | refine r_if rfl (fun _ => ?_) (fun _ => ?_) | refine r_exit rfl ?_)))
          all_goals try (exfalso; omega)
          refine r_ren 41 1000 rfl rfl ?_
          refine r_less (ih (k + 1) (by omega) (by omega)) rfl ?_
          rw [pick_yes ht hk]; rfl
        · rw [q2 rfl] at c2
          repeat' (first | (refine k_op1 ?_; (first | refine o_sv rfl (by decide) ?_ | (refine k_load ?_; (first | refine o_val (v_loada rfl rfl rfl) rfl rfl (by decide) ?_ | refine o_val (v_loadea rfl rfl) rfl rfl (by decide) ?_ | refine o_val (v_loadp rfl rfl rfl rfl) rfl rfl (by decide) ?_)) | (refine k_index ?_; (refine o_val (v_index (ys := l.map spc) rfl (by omega) (idx ht) rfl) rfl rfl (by decide) ?_)) | (refine k_bin ?_; (refine o_val (v_add (wi64 (by omega) (by omega))) rfl rfl (by decide) ?_)) | (refine k_blt ?_; (refine o_app1 (g := fun i : Nat => [Dint (i : Nat)]) rfl rfl k rfl rfl rfl rfl rfl rfl rfl (by decide) (by omega) ?_)) | (refine k_call ?_; (refine o_fn c2 rfl (by decide) ?_)) | (refine k_store ?_; (refine o_store0 rfl rfl rfl rfl rfl rfl ?_)) | (refine k_alloc ?_; (refine o_does (d_alloc rfl rfl (by decide)) ?_)) | (refine k_lit ?_; (refine o_lit rfl rfl rfl rfl rfl rfl rfl rfl (by decide) ?_)))) | (refine k_ops ?_; (first | refine o_go (by first | exact .inl rfl | exact .inr ⟨_, _, _, rfl, rfl, rfl⟩) ?_ | refine o_nil ?_)) | (refine k_run ?_; (first | refine r_seq ?_ | refine r_region ?_ | refine r_true rfl ?_ | refine r_false rfl ?_ | refine r_skip ?_ | refine r_block ?_ | refine r_inBlock ?_ | refine r_if rfl (fun _ => ?_) (fun _ => ?_) | refine r_exit rfl ?_)))
          all_goals try (exfalso; omega)
          refine r_ren 41 1000 rfl rfl ?_
          refine r_less (ih (k + 1) (by omega) (by omega)) rfl ?_
          rw [pick_yes ht hk]; rfl
        · rw [q3 rfl] at c3
          repeat' (first | (refine k_op1 ?_; (first | refine o_sv rfl (by decide) ?_ | (refine k_load ?_; (first | refine o_val (v_loada rfl rfl rfl) rfl rfl (by decide) ?_ | refine o_val (v_loadea rfl rfl) rfl rfl (by decide) ?_ | refine o_val (v_loadp rfl rfl rfl rfl) rfl rfl (by decide) ?_)) | (refine k_index ?_; (refine o_val (v_index (ys := l.map spc) rfl (by omega) (idx ht) rfl) rfl rfl (by decide) ?_)) | (refine k_bin ?_; (refine o_val (v_add (wi64 (by omega) (by omega))) rfl rfl (by decide) ?_)) | (refine k_blt ?_; (refine o_app1 (g := fun i : Nat => [Dint (i : Nat)]) rfl rfl k rfl rfl rfl rfl rfl rfl rfl (by decide) (by omega) ?_)) | (refine k_call ?_; (refine o_fn c3 rfl (by decide) ?_)) | (refine k_store ?_; (refine o_store0 rfl rfl rfl rfl rfl rfl ?_)) | (refine k_alloc ?_; (refine o_does (d_alloc rfl rfl (by decide)) ?_)) | (refine k_lit ?_; (refine o_lit rfl rfl rfl rfl rfl rfl rfl rfl (by decide) ?_)))) | (refine k_ops ?_; (first | refine o_go (by first | exact .inl rfl | exact .inr ⟨_, _, _, rfl, rfl, rfl⟩) ?_ | refine o_nil ?_)) | (refine k_run ?_; (first | refine r_seq ?_ | refine r_region ?_ | refine r_true rfl ?_ | refine r_false rfl ?_ | refine r_skip ?_ | refine r_block ?_ | refine r_inBlock ?_ | refine r_if rfl (fun _ => ?_) (fun _ => ?_) | refine r_exit rfl ?_)))
          all_goals try (exfalso; omega)
          refine r_ren 41 1000 rfl rfl ?_
          refine r_less (ih (k + 1) (by omega) (by omega)) rfl ?_
          rw [pick_yes ht hk]; rfl
      | false =>
        obtain ⟨q1, q2, q3⟩ := hc _ hk
        rcases hh with rfl | rfl | rfl
        · rw [q1 rfl] at c1
          repeat' (first | (refine k_op1 ?_; (first | refine o_sv rfl (by decide) ?_ | (refine k_load ?_; (first | refine o_val (v_loada rfl rfl rfl) rfl rfl (by decide) ?_ | refine o_val (v_loadea rfl rfl) rfl rfl (by decide) ?_ | refine o_val (v_loadp rfl rfl rfl rfl) rfl rfl (by decide) ?_)) | (refine k_index ?_; (refine o_val (v_index (ys := l.map spc) rfl (by omega) (idx ht) rfl) rfl rfl (by decide) ?_)) | (refine k_bin ?_; (refine o_val (v_add (wi64 (by omega) (by omega))) rfl rfl (by decide) ?_)) | (refine k_call ?_; (refine o_fn c1 rfl (by decide) ?_)) | (refine k_store ?_; (refine o_store0 rfl rfl rfl rfl rfl rfl ?_)) | (refine k_alloc ?_; (refine o_does (d_alloc rfl rfl (by decide)) ?_)))) | (refine k_ops ?_; (first | refine o_go (by first | exact .inl rfl | exact .inr ⟨_, _, _, rfl, rfl, rfl⟩) ?_ | refine o_nil ?_)) | (refine k_run ?_; (first | refine r_seq ?_ | refine r_region ?_ | refine r_true rfl ?_ | refine r_false rfl ?_ | refine r_skip ?_ | refine r_block ?_ | refine r_inBlock ?_ | refine r_if rfl (fun _ => ?_) (fun _ => ?_) | refine r_exit rfl ?_)))
          all_goals try (exfalso; omega)
          refine r_less (ih (k + 1) (by omega) (by omega)) rfl ?_
          rw [pick_no ht hk]; rfl
        · rw [q2 rfl] at c2
          repeat' (first | (refine k_op1 ?_; (first | refine o_sv rfl (by decide) ?_ | (refine k_load ?_; (first | refine o_val (v_loada rfl rfl rfl) rfl rfl (by decide) ?_ | refine o_val (v_loadea rfl rfl) rfl rfl (by decide) ?_ | refine o_val (v_loadp rfl rfl rfl rfl) rfl rfl (by decide) ?_)) | (refine k_index ?_; (refine o_val (v_index (ys := l.map spc) rfl (by omega) (idx ht) rfl) rfl rfl (by decide) ?_)) | (refine k_bin ?_; (refine o_val (v_add (wi64 (by omega) (by omega))) rfl rfl (by decide) ?_)) | (refine k_call ?_; (refine o_fn c2 rfl (by decide) ?_)) | (refine k_store ?_; (refine o_store0 rfl rfl rfl rfl rfl rfl ?_)) | (refine k_alloc ?_; (refine o_does (d_alloc rfl rfl (by decide)) ?_)))) | (refine k_ops ?_; (first | refine o_go (by first | exact .inl rfl | exact .inr ⟨_, _, _, rfl, rfl, rfl⟩) ?_ | refine o_nil ?_)) | (refine k_run ?_; (first | refine r_seq ?_ | refine r_region ?_ | refine r_true rfl ?_ | refine r_false rfl ?_ | refine r_skip ?_ | refine r_block ?_ | refine r_inBlock ?_ | refine r_if rfl (fun _ => ?_) (fun _ => ?_) | refine r_exit rfl ?_)))
          all_goals try (exfalso; omega)
          refine r_less (ih (k + 1) (by omega) (by omega)) rfl ?_
          rw [pick_no ht hk]; rfl
        · rw [q3 rfl] at c3
          repeat' (first | (refine k_op1 ?_; (first | refine o_sv rfl (by decide) ?_ | (refine k_load ?_; (first | refine o_val (v_loada rfl rfl rfl) rfl rfl (by decide) ?_ | refine o_val (v_loadea rfl rfl) rfl rfl (by decide) ?_ | refine o_val (v_loadp rfl rfl rfl rfl) rfl rfl (by decide) ?_)) | (refine k_index ?_; (refine o_val (v_index (ys := l.map spc) rfl (by omega) (idx ht) rfl) rfl rfl (by decide) ?_)) | (refine k_bin ?_; (refine o_val (v_add (wi64 (by omega) (by omega))) rfl rfl (by decide) ?_)) | (refine k_call ?_; (refine o_fn c3 rfl (by decide) ?_)) | (refine k_store ?_; (refine o_store0 rfl rfl rfl rfl rfl rfl ?_)) | (refine k_alloc ?_; (refine o_does (d_alloc rfl rfl (by decide)) ?_)))) | (refine k_ops ?_; (first | refine o_go (by first | exact .inl rfl | exact .inr ⟨_, _, _, rfl, rfl, rfl⟩) ?_ | refine o_nil ?_)) | (refine k_run ?_; (first | refine r_seq ?_ | refine r_region ?_ | refine r_true rfl ?_ | refine r_false rfl ?_ | refine r_skip ?_ | refine r_block ?_ | refine r_inBlock ?_ | refine r_if rfl (fun _ => ?_) (fun _ => ?_) | refine r_exit rfl ?_)))
          all_goals try (exfalso; omega)
          refine r_less (ih (k + 1) (by omega) (by omega)) rfl ?_
          rw [pick_no ht hk]; rfl
    · obtain rfl : k = l.length := by omega
      repeat' (first | (refine k_op1 ?_; (refine o_sv rfl (by decide) ?_)) | (refine k_ops ?_; (first | refine o_go (by first | exact .inl rfl | exact .inr ⟨_, _, _, rfl, rfl, rfl⟩) ?_ | refine o_nil ?_)) | (refine k_run ?_; (first | refine r_seq ?_ | refine r_region ?_ | refine r_skip ?_ | refine r_block ?_ | refine r_if rfl (fun _ => ?_) (fun _ => ?_) | refine r_exit rfl ?_)))
      all_goals try (exfalso; omega)
      refine r_freeze 1000 rfl ?_
      exact r_ret Try.func18 _ (res_one rfl rfl) ⟨rfl, rfl⟩
end Go.Proofs.Ytiapeheclfkdmaa
namespace Go.Proofs.Ytiapeheclfkdmaa
open Go.Ab Go.Stab
set_option maxHeartbeats 20000000
set_option maxRecDepth 100000
set_option linter.unusedVariables false
set_option linter.unusedSimpArgs false
attribute [local irreducible] Run Ops Op1 Does Val Tr PureF Eff1 NF Rel EffV EffM

theorem built_ok (l : List Span) (hl : l.length ≤ 1000000) (h : chk12 l = 0) : ∀ H, Ab.Spec Try.prog 10 [.d (spans l)] H (fun r H' => r = .newT (xbox l) [.d (.lit (.bool true))] ∧ H' = H) := by
  intro H
  refine spec_of Try.func10 (by kernel_rfl) rfl (by simp) ?_
  dsimp only [Try.f10]
  have hb := build_ok l (by rw [bldE_eq, h])
  have hc := rcheck12_s l (by omega)
  rw [h] at hc
  repeat' (first | (refine k_op1 ?_; (first | refine o_sv rfl (by decide) ?_ | (refine k_bin ?_; (refine o_val (v_beql rfl) rfl rfl (by decide) ?_)) | (refine k_call ?_; (first | refine o_fn hc rfl (by decide) ?_ | (refine o_callnT rfl (hb _) (by decide) rfl (fun r H' h => ⟨_, _, h.1, h.2, rfl, rfl, ?_⟩); refine o_renT 9 600 rfl rfl ?_))) | refine o_val (v_pne rfl) rfl rfl (by decide) ?_)) | (refine k_ops ?_; (first | refine o_go (by first | exact .inl rfl | exact .inr ⟨_, _, _, rfl, rfl, rfl⟩) ?_ | refine o_nil ?_)) | (refine k_run ?_; (first | refine r_seq ?_ | refine r_region ?_)))
  all_goals try (exfalso; omega)
  exact r_ret Try.func10 _ (res_newT (qs := [.d (spans l), .d (nats (ordS l)), .d (ints (endsS l))]) rfl rfl rfl rfl rfl) ⟨rfl, rfl⟩
theorem built_bad (l : List Span) (hl : l.length ≤ 1000000) (h : chk12 l ≠ 0) : PureF Try.prog 10 [.d (spans l)] (.tup [.d (.lit nilP), B true]) := by
  refine pure_of fun H => ?_
  refine spec_of Try.func10 (by kernel_rfl) rfl (by simp) ?_
  dsimp only [Try.f10]
  have hb := build_bad l (by omega) (by rw [bldE_eq]; exact h)
  rw [bldE_eq] at hb
  have hc := rcheck12_s l (by omega)
  repeat' (first | (refine k_op1 ?_; (first | refine o_sv rfl (by decide) ?_ | (refine k_bin ?_; (refine o_val (v_beql rfl) rfl rfl (by decide) ?_)) | (refine k_call ?_; (first | refine o_fn hc rfl (by decide) ?_ | refine o_fn hb rfl (by decide) ?_)) | refine o_val (v_pnilne rfl) rfl rfl (by decide) ?_)) | (refine k_ops ?_; (first | refine o_go (by first | exact .inl rfl | exact .inr ⟨_, _, _, rfl, rfl, rfl⟩) ?_ | refine o_nil ?_ | refine o_no rfl rfl (by decide) ?_ | refine o_casep rfl rfl (fun _ => ?_) (fun _ => ?_))) | (refine k_run ?_; (first | refine r_seq ?_ | refine r_region ?_)))
  all_goals try (exfalso; omega)
  refine r_ret Try.func10 _ (res_two rfl rfl rfl) ⟨?_, rfl⟩
  rw [decide_eq_false h]; rfl
def ex : List Span := [(0, 5), (2, 3), (2, 8)]
theorem ex_s : PureF Try.prog 27 [] (.d (spans ex)) := by
  refine pure_of fun H => ?_
  refine spec_of Try.func27 (by kernel_rfl) rfl (by simp) ?_
  dsimp only [Try.f27]
  repeat' (first | (refine k_op1 ?_; (first | refine o_sv rfl (by decide) ?_ | (refine k_build ?_; (refine o_build rfl rfl rfl rfl rfl rfl rfl (by decide) ?_)) | (refine k_lit ?_; (refine o_lit rfl rfl rfl rfl rfl rfl rfl rfl (by decide) ?_)))) | (refine k_ops ?_; (first | refine o_go (by first | exact .inl rfl | exact .inr ⟨_, _, _, rfl, rfl, rfl⟩) ?_ | refine o_nil ?_)) | (refine k_run ?_; (first | refine r_seq ?_ | refine r_region ?_)))
  exact r_ret Try.func27 _ (res_one rfl rfl) ⟨rfl, rfl⟩
theorem awake_s : PureF Try.prog 12 [] (B true) := by
  refine pure_of fun H => ?_
  refine spec_of Try.func12 (by kernel_rfl) rfl (by simp) ?_
  dsimp only [Try.f12]
  have hb := build_ok ex (by decide)
  have c1 := stab_s (X := 600) 0 ex 2 (by decide)
  rw [show stb ex 2 = [0, 1, 2] by decide] at c1
  have c2 := overlap_s (X := 600) 0 ex (5, 6) (by decide)
  rw [show (fnd ex (5, 6) fun _ => true) = [2] by decide] at c2
  have c3 := len_s (X := 600) ex (by decide)
  have s1 := same_s [0, 1, 2] [0, 1, 2] (by decide) (by decide)
  rw [show decide (([0, 1, 2] : List Nat) = [0, 1, 2]) = true by decide] at s1
  have s2 := same_s [2] [2] (by decide) (by decide)
  rw [show decide (([2] : List Nat) = [2]) = true by decide] at s2
  repeat' (first | (refine k_op1 ?_; (first | refine o_sv rfl (by decide) ?_ | (refine k_call ?_; (first | refine o_fn ex_s rfl (by decide) ?_ | (refine o_callnT rfl (hb _) (by decide) rfl (fun r H' h => ⟨_, _, h.1, h.2, rfl, rfl, ?_⟩); refine o_renT 5 600 rfl rfl ?_) | refine o_effd c1 rfl rfl (by decide) ?_ | refine o_effd c2 rfl rfl (by decide) ?_ | refine o_effd c3 rfl rfl (by decide) ?_ | refine o_fn s1 rfl (by decide) ?_ | refine o_fn s2 rfl (by decide) ?_)) | (refine k_build ?_; (refine o_build rfl rfl rfl rfl rfl rfl rfl (by decide) ?_)) | (refine k_lit ?_; (refine o_lit rfl rfl rfl rfl rfl rfl rfl rfl (by decide) ?_)) | refine o_val (v_pne rfl) rfl rfl (by decide) ?_)) | (refine k_ops ?_; (first | refine o_go (by first | exact .inl rfl | exact .inr ⟨_, _, _, rfl, rfl, rfl⟩) ?_ | refine o_nil ?_)) | (refine k_run ?_; (first | refine r_seq ?_ | refine r_region ?_)))
  all_goals try (exfalso; omega)
  exact r_ret Try.func12 _ (res_one rfl rfl) ⟨rfl, rfl⟩
end Go.Proofs.Ytiapeheclfkdmaa
namespace Go.Proofs.Ytiapeheclfkdmaa
open Go.Ab Go.Stab
set_option maxHeartbeats 20000000
set_option maxRecDepth 100000
set_option linter.unusedVariables false
set_option linter.unusedSimpArgs false
attribute [local irreducible] Run Ops Op1 Does Val Tr PureF Eff1 NF Rel EffV EffM

theorem chkS_all : ∀ (l : List Span), chkS l = 0 → ∀ t ∈ l, okS t = true
  | [], _, t, ht => by simp at ht
  | s :: r, h, t, ht => by
    rw [chkS] at h
    cases hs : okS s with
    | false => rw [if_pos hs] at h; cases h
    | true =>
      rw [if_neg (by simp [hs])] at h
      rw [List.mem_cons] at ht
      rcases ht with rfl | ht
      · exact hs
      · exact chkS_all r h t ht
theorem chkE_all : ∀ (l : List Span), chkE l = 0 → ∀ t ∈ l, t.2 ≤ 2147483647
  | [], _, t, ht => by simp at ht
  | s :: r, h, t, ht => by
    rw [chkE] at h
    by_cases hs : 2147483647 < s.2
    · rw [if_pos hs] at h; cases h
    · rw [if_neg hs] at h
      rw [List.mem_cons] at ht
      rcases ht with rfl | ht
      · omega
      · exact chkE_all r h t ht
theorem chk_all {l : List Span} (h : chk12 l = 0) : l.length ≤ 4096 ∧ ∀ i, i < l.length → 0 ≤ (l.getD i (0, 0)).1 ∧ (l.getD i (0, 0)).1 < (l.getD i (0, 0)).2 ∧ (l.getD i (0, 0)).2 ≤ 2147483647 := by
  rw [chk12] at h
  by_cases h1 : chk11 l = 0
  · rw [if_neg (by simp [h1])] at h
    rw [chk11] at h1
    by_cases h2 : 4096 < l.length
    · rw [if_pos h2] at h1; cases h1
    rw [if_neg h2] at h1
    refine ⟨by omega, fun i hi => ?_⟩
    obtain ⟨t, ht⟩ : ∃ t, l[i]? = some t := ⟨_, List.getElem?_eq_getElem hi⟩
    rw [getD_some ht]
    have hm := List.mem_of_getElem? ht
    have q1 := chkS_all l h1 t hm
    have q2 := chkE_all l h t hm
    simp only [okS, Bool.and_eq_true, decide_eq_true_eq] at q1
    omega
  · rw [if_pos h1] at h; exact absurd h h1
theorem stb_eq {l : List Span} (h : chk12 l = 0) (p : Int) : stb l p = pick l (kst p) l.length := by
  obtain ⟨_, ha⟩ := chk_all h
  rw [stb, pick]
  by_cases hp : p < 0 ∨ 2147483647 ≤ p
  · rw [if_pos hp]
    symm
    rw [List.filter_eq_nil_iff]
    intro i hi
    have := ha i (by simpa using hi)
    simp only [kst, Bool.and_eq_true, decide_eq_true_eq]; omega
  · rw [if_neg hp, fnd, if_pos (by simp only [okS, Bool.and_eq_true, decide_eq_true_eq]; omega)]
    refine List.filter_congr fun i hi => ?_
    rw [Bool.eq_iff_iff]
    simp only [kst, ov, Bool.and_eq_true, decide_eq_true_eq, and_true]; omega
theorem ask1 {l : List Span} (h : chk12 l = 0) (s : Span) : (fnd l s fun _ => true) = rask l s 1 := by
  rw [fnd, rask]
  split
  · rw [pick]
    refine List.filter_congr fun i hi => ?_
    rw [Bool.eq_iff_iff]
    simp [kask, ov, ovS]
  · rfl
theorem ask2 {l : List Span} (h : chk12 l = 0) (s : Span) : (fnd l s fun t => decide (s.1 ≤ t.1) && decide (t.2 ≤ s.2)) = rask l s 2 := by
  obtain ⟨_, ha⟩ := chk_all h
  rw [fnd, rask]
  split
  · rename_i hs
    rw [pick]
    refine List.filter_congr fun i hi => ?_
    have := ha i (by simpa using hi)
    rw [Bool.eq_iff_iff]
    simp only [okS, Bool.and_eq_true, decide_eq_true_eq] at hs
    rw [show kask 2 s = conS s from rfl]
    simp only [ov, conS, Bool.and_eq_true, decide_eq_true_eq]; omega
  · rfl
theorem ask3 {l : List Span} (h : chk12 l = 0) (s : Span) : (fnd l s fun t => decide (t.1 ≤ s.1) && decide (s.2 ≤ t.2)) = rask l s 3 := by
  obtain ⟨_, ha⟩ := chk_all h
  rw [fnd, rask]
  split
  · rename_i hs
    rw [pick]
    refine List.filter_congr fun i hi => ?_
    have := ha i (by simpa using hi)
    rw [Bool.eq_iff_iff]
    simp only [okS, Bool.and_eq_true, decide_eq_true_eq] at hs
    rw [show kask 3 s = fun t => conS t s from rfl]
    simp only [ov, conS, Bool.and_eq_true, decide_eq_true_eq]; omega
  · rfl
theorem fnd_len (l : List Span) (s : Span) (kp : Span → Bool) : (fnd l s kp).length ≤ l.length := by
  rw [fnd]; split
  · have := List.length_filter_le (fun i => ov l s i && kp (l.getD i (0, 0))) (List.range l.length)
    simpa using this
  · simp
theorem stb_len (l : List Span) (p : Int) : (stb l p).length ≤ l.length := by
  rw [stb]; split
  · simp
  · exact fnd_len _ _ _
theorem same_refl (a : List Nat) (ha : a.length ≤ 1000000) : PureF Try.prog 13 [.d (nats a), .d (nats a)] (B true) := by
  have := same_s a a ha ha
  rw [decide_eq_true rfl] at this; exact this
theorem builds_law (l : List Span) (hl : l.length ≤ 9223372036854775807) : PureF Try.prog 3 [.d (spans l)] (B true) := by
  refine pure_of fun H => ?_
  refine spec_of Try.func3 (by kernel_rfl) rfl (by simp) ?_
  dsimp only [Try.f3]
  by_cases hb : 100 < l.length
  · repeat' (first | (refine k_op1 ?_; (first | refine o_sv rfl (by decide) ?_ | (refine k_blt ?_; (refine o_val (v_lenm rfl) rfl rfl (by decide) ?_)))) | (refine k_ops ?_; (first | refine o_go (by first | exact .inl rfl | exact .inr ⟨_, _, _, rfl, rfl, rfl⟩) ?_ | refine o_nil ?_)) | (refine k_run ?_; (first | refine r_seq ?_ | refine r_region ?_ | refine r_skip ?_ | refine r_if rfl (fun _ => ?_) (fun _ => ?_))))
    all_goals try (exfalso; omega)
    exact r_ret Try.func3 _ (res_one rfl rfl) ⟨rfl, rfl⟩
  by_cases hc : chk12 l = 0
  · have c1 := built_ok l (by omega) hc
    have c2 := len_s (X := 600) l (by omega)
    repeat' (first | (refine k_op1 ?_; (first | refine o_sv rfl (by decide) ?_ | (refine k_blt ?_; (refine o_val (v_lenm rfl) rfl rfl (by decide) ?_)) | (refine k_call ?_; (first | (refine o_callnT rfl (c1 _) (by decide) rfl (fun r H' h => ⟨_, _, h.1, h.2, rfl, rfl, ?_⟩); refine o_renT 10 600 rfl rfl ?_) | refine o_effd c2 rfl rfl (by decide) ?_ | refine o_fn awake_s rfl (by decide) ?_)) | refine o_val (v_peq rfl) rfl rfl (by decide) ?_)) | (refine k_ops ?_; (first | refine o_go (by first | exact .inl rfl | exact .inr ⟨_, _, _, rfl, rfl, rfl⟩) ?_ | refine o_nil ?_ | refine o_no rfl rfl (by decide) ?_ | refine o_casep rfl rfl (fun _ => ?_) (fun _ => ?_))) | (refine k_run ?_; (first | refine r_seq ?_ | refine r_region ?_ | refine r_skip ?_ | refine r_if rfl (fun _ => ?_) (fun _ => ?_))))
    all_goals try (exfalso; omega)
    exact r_ret Try.func3 _ (res_one rfl rfl) ⟨rfl, rfl⟩
  · have c1 := built_bad l (by omega) hc
    repeat' (first | (refine k_op1 ?_; (first | refine o_sv rfl (by decide) ?_ | (refine k_blt ?_; (refine o_val (v_lenm rfl) rfl rfl (by decide) ?_)) | (refine k_call ?_; (first | refine o_fn c1 rfl (by decide) ?_ | refine o_fn awake_s rfl (by decide) ?_)) | refine o_val (v_pnileq rfl) rfl rfl (by decide) ?_)) | (refine k_ops ?_; (first | refine o_go (by first | exact .inl rfl | exact .inr ⟨_, _, _, rfl, rfl, rfl⟩) ?_ | refine o_nil ?_ | refine o_no rfl rfl (by decide) ?_)) | (refine k_run ?_; (first | refine r_seq ?_ | refine r_region ?_ | refine r_skip ?_ | refine r_if rfl (fun _ => ?_) (fun _ => ?_))))
    all_goals try (exfalso; omega)
    exact r_ret Try.func3 _ (res_one rfl rfl) ⟨rfl, rfl⟩
theorem stabs_law (l : List Span) (p : Int) (hl : l.length ≤ 9223372036854775807) : PureF Try.prog 4 [.d (spans l), I .i64 p] (B true) := by
  refine pure_of fun H => ?_
  refine spec_of Try.func4 (by kernel_rfl) rfl (by simp) ?_
  dsimp only [Try.f4]
  by_cases hb : 100 < l.length
  · repeat' (first | (refine k_op1 ?_; (first | refine o_sv rfl (by decide) ?_ | (refine k_blt ?_; (refine o_val (v_lenm rfl) rfl rfl (by decide) ?_)))) | (refine k_ops ?_; (first | refine o_go (by first | exact .inl rfl | exact .inr ⟨_, _, _, rfl, rfl, rfl⟩) ?_ | refine o_nil ?_)) | (refine k_run ?_; (first | refine r_seq ?_ | refine r_region ?_ | refine r_skip ?_ | refine r_if rfl (fun _ => ?_) (fun _ => ?_))))
    all_goals try (exfalso; omega)
    exact r_ret Try.func4 _ (res_one rfl rfl) ⟨rfl, rfl⟩
  by_cases hc : chk12 l = 0
  · have c1 := built_ok l (by omega) hc
    have c2 := stab_s (X := 600) 0 l p (by omega)
    have c3 := rstab_s l p (by omega)
    have hln := stb_len l p
    have c4 := same_refl (stb l p) (by omega)
    rw [← stb_eq hc] at c3
    repeat' (first | (refine k_op1 ?_; (first | refine o_sv rfl (by decide) ?_ | (refine k_blt ?_; (refine o_val (v_lenm rfl) rfl rfl (by decide) ?_)) | (refine k_call ?_; (first | (refine o_callnT rfl (c1 _) (by decide) rfl (fun r H' h => ⟨_, _, h.1, h.2, rfl, rfl, ?_⟩); refine o_renT 12 600 rfl rfl ?_) | refine o_effd c2 rfl rfl (by decide) ?_ | refine o_fn c3 rfl (by decide) ?_ | refine o_fn c4 rfl (by decide) ?_ | refine o_fn awake_s rfl (by decide) ?_)) | refine o_val (v_peq rfl) rfl rfl (by decide) ?_)) | (refine k_ops ?_; (first | refine o_go (by first | exact .inl rfl | exact .inr ⟨_, _, _, rfl, rfl, rfl⟩) ?_ | refine o_nil ?_)) | (refine k_run ?_; (first | refine r_seq ?_ | refine r_region ?_ | refine r_false rfl ?_ | refine r_skip ?_ | refine r_if rfl (fun _ => ?_) (fun _ => ?_))))
    all_goals try (exfalso; omega)
    exact r_ret Try.func4 _ (res_one rfl rfl) ⟨rfl, rfl⟩
  · have c1 := built_bad l (by omega) hc
    repeat' (first | (refine k_op1 ?_; (first | refine o_sv rfl (by decide) ?_ | (refine k_blt ?_; (refine o_val (v_lenm rfl) rfl rfl (by decide) ?_)) | (refine k_call ?_; (first | refine o_fn c1 rfl (by decide) ?_ | refine o_fn awake_s rfl (by decide) ?_)) | refine o_val (v_pnileq rfl) rfl rfl (by decide) ?_)) | (refine k_ops ?_; (first | refine o_go (by first | exact .inl rfl | exact .inr ⟨_, _, _, rfl, rfl, rfl⟩) ?_ | refine o_nil ?_)) | (refine k_run ?_; (first | refine r_seq ?_ | refine r_region ?_ | refine r_true rfl ?_ | refine r_skip ?_ | refine r_if rfl (fun _ => ?_) (fun _ => ?_))))
    all_goals try (exfalso; omega)
    exact r_ret Try.func4 _ (res_one rfl rfl) ⟨rfl, rfl⟩
end Go.Proofs.Ytiapeheclfkdmaa
