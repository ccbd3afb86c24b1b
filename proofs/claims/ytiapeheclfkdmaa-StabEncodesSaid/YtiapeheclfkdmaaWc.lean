/- What is asked of spans, for every input. -/
import Derived.Test.YtiapeheclfkdmaaWa
set_option linter.all false
set_option linter.unusedVariables false
set_option linter.unusedSimpArgs false
namespace Go.Proofs.Ytiapeheclfkdmaa
open Go.Ab
set_option maxHeartbeats 20000000
set_option linter.unusedVariables false
set_option linter.unusedSimpArgs false
attribute [local irreducible] Run Ops Op1 Does Val Tr PureF Eff1 NF Rel EffV EffM

def okS (s : Span) : Bool := decide (0 ≤ s.1) && decide (s.1 < s.2)
theorem valid_s (s : Span) : PureF Try.prog 35 [.d (Dsp s)] (B (okS s)) := by
  refine pure_of fun H => ?_
  refine spec_of Try.func35 (by kernel_rfl) rfl (by simp) ?_
  dsimp only [Try.f35]
  by_cases h0 : 0 ≤ s.1
  · rw [okS, decide_eq_true h0, Bool.true_and]
    repeat' (first | (refine k_op1 ?_; (first | refine o_sv rfl (by decide) ?_ | (refine k_load ?_; (refine o_val (v_load rfl rfl rfl rfl) rfl rfl (by decide) ?_)) | (refine k_field ?_; (refine o_val (v_field rfl rfl) rfl rfl (by decide) ?_)) | (refine k_box ?_; (refine o_does (d_box_d rfl rfl (by decide)) ?_)))) | (refine k_ops ?_; (first | refine o_go (by first | exact .inl rfl | exact .inr ⟨_, _, _, rfl, rfl, rfl⟩) ?_ | refine o_nil ?_ | refine o_no rfl rfl (by decide) ?_ | refine o_casep rfl rfl (fun _ => ?_) (fun _ => ?_))) | (refine k_run ?_; (first | refine r_seq ?_ | refine r_region ?_)))
    all_goals try (exfalso; omega)
    all_goals exact r_ret Try.func35 _ (res_one rfl rfl) ⟨rfl, rfl⟩
  · rw [okS, decide_eq_false h0, Bool.false_and]
    repeat' (first | (refine k_op1 ?_; (first | refine o_sv rfl (by decide) ?_ | (refine k_load ?_; (refine o_val (v_load rfl rfl rfl rfl) rfl rfl (by decide) ?_)) | (refine k_field ?_; (refine o_val (v_field rfl rfl) rfl rfl (by decide) ?_)) | (refine k_box ?_; (refine o_does (d_box_d rfl rfl (by decide)) ?_)))) | (refine k_ops ?_; (first | refine o_go (by first | exact .inl rfl | exact .inr ⟨_, _, _, rfl, rfl, rfl⟩) ?_ | refine o_nil ?_ | refine o_no rfl rfl (by decide) ?_ | refine o_casep rfl rfl (fun _ => ?_) (fun _ => ?_))) | (refine k_run ?_; (first | refine r_seq ?_ | refine r_region ?_)))
    all_goals try (exfalso; omega)
    all_goals exact r_ret Try.func35 _ (res_one rfl rfl) ⟨rfl, rfl⟩
theorem rvalid_s (s : Span) : PureF Try.prog 31 [.d (Dsp s)] (B (okS s)) := by
  refine pure_of fun H => ?_
  refine spec_of Try.func31 (by kernel_rfl) rfl (by simp) ?_
  dsimp only [Try.f31]
  by_cases h0 : 0 ≤ s.1
  · rw [okS, decide_eq_true h0, Bool.true_and]
    repeat' (first | (refine k_op1 ?_; (first | refine o_sv rfl (by decide) ?_ | (refine k_load ?_; (refine o_val (v_load rfl rfl rfl rfl) rfl rfl (by decide) ?_)) | (refine k_field ?_; (refine o_val (v_field rfl rfl) rfl rfl (by decide) ?_)) | (refine k_box ?_; (refine o_does (d_box_d rfl rfl (by decide)) ?_)))) | (refine k_ops ?_; (first | refine o_go (by first | exact .inl rfl | exact .inr ⟨_, _, _, rfl, rfl, rfl⟩) ?_ | refine o_nil ?_ | refine o_no rfl rfl (by decide) ?_ | refine o_casep rfl rfl (fun _ => ?_) (fun _ => ?_))) | (refine k_run ?_; (first | refine r_seq ?_ | refine r_region ?_)))
    all_goals try (exfalso; omega)
    all_goals exact r_ret Try.func31 _ (res_one rfl rfl) ⟨rfl, rfl⟩
  · rw [okS, decide_eq_false h0, Bool.false_and]
    repeat' (first | (refine k_op1 ?_; (first | refine o_sv rfl (by decide) ?_ | (refine k_load ?_; (refine o_val (v_load rfl rfl rfl rfl) rfl rfl (by decide) ?_)) | (refine k_field ?_; (refine o_val (v_field rfl rfl) rfl rfl (by decide) ?_)) | (refine k_box ?_; (refine o_does (d_box_d rfl rfl (by decide)) ?_)))) | (refine k_ops ?_; (first | refine o_go (by first | exact .inl rfl | exact .inr ⟨_, _, _, rfl, rfl, rfl⟩) ?_ | refine o_nil ?_ | refine o_no rfl rfl (by decide) ?_ | refine o_casep rfl rfl (fun _ => ?_) (fun _ => ?_))) | (refine k_run ?_; (first | refine r_seq ?_ | refine r_region ?_)))
    all_goals try (exfalso; omega)
    all_goals exact r_ret Try.func31 _ (res_one rfl rfl) ⟨rfl, rfl⟩
def ovS (a b : Span) : Bool := decide (a.1 < b.2) && decide (b.1 < a.2)
def conS (a b : Span) : Bool := decide (a.1 ≤ b.1) && decide (b.2 ≤ a.2)
theorem rover_s (a b : Span) : PureF Try.prog 32 [.d (Dsp a), .d (Dsp b)] (B (ovS a b)) := by
  refine pure_of fun H => ?_
  refine spec_of Try.func32 (by kernel_rfl) rfl (by simp) ?_
  dsimp only [Try.f32]
  by_cases h0 : a.1 < b.2
  · rw [ovS, decide_eq_true h0, Bool.true_and]
    repeat' (first | (refine k_op1 ?_; (first | refine o_sv rfl (by decide) ?_ | (refine k_load ?_; (refine o_val (v_load rfl rfl rfl rfl) rfl rfl (by decide) ?_)) | (refine k_field ?_; (refine o_val (v_field rfl rfl) rfl rfl (by decide) ?_)) | (refine k_box ?_; (refine o_does (d_box_d rfl rfl (by decide)) ?_)))) | (refine k_ops ?_; (first | refine o_go (by first | exact .inl rfl | exact .inr ⟨_, _, _, rfl, rfl, rfl⟩) ?_ | refine o_nil ?_ | refine o_no rfl rfl (by decide) ?_ | refine o_casep rfl rfl (fun _ => ?_) (fun _ => ?_))) | (refine k_run ?_; (first | refine r_seq ?_ | refine r_region ?_)))
    all_goals try (exfalso; omega)
    all_goals exact r_ret Try.func32 _ (res_one rfl rfl) ⟨rfl, rfl⟩
  · rw [ovS, decide_eq_false h0, Bool.false_and]
    repeat' (first | (refine k_op1 ?_; (first | refine o_sv rfl (by decide) ?_ | (refine k_load ?_; (refine o_val (v_load rfl rfl rfl rfl) rfl rfl (by decide) ?_)) | (refine k_field ?_; (refine o_val (v_field rfl rfl) rfl rfl (by decide) ?_)) | (refine k_box ?_; (refine o_does (d_box_d rfl rfl (by decide)) ?_)))) | (refine k_ops ?_; (first | refine o_go (by first | exact .inl rfl | exact .inr ⟨_, _, _, rfl, rfl, rfl⟩) ?_ | refine o_nil ?_ | refine o_no rfl rfl (by decide) ?_ | refine o_casep rfl rfl (fun _ => ?_) (fun _ => ?_))) | (refine k_run ?_; (first | refine r_seq ?_ | refine r_region ?_)))
    all_goals try (exfalso; omega)
    all_goals exact r_ret Try.func32 _ (res_one rfl rfl) ⟨rfl, rfl⟩
theorem rcon_s (a b : Span) : PureF Try.prog 33 [.d (Dsp a), .d (Dsp b)] (B (conS a b)) := by
  refine pure_of fun H => ?_
  refine spec_of Try.func33 (by kernel_rfl) rfl (by simp) ?_
  dsimp only [Try.f33]
  by_cases h0 : a.1 ≤ b.1
  · rw [conS, decide_eq_true h0, Bool.true_and]
    repeat' (first | (refine k_op1 ?_; (first | refine o_sv rfl (by decide) ?_ | (refine k_load ?_; (refine o_val (v_load rfl rfl rfl rfl) rfl rfl (by decide) ?_)) | (refine k_field ?_; (refine o_val (v_field rfl rfl) rfl rfl (by decide) ?_)) | (refine k_box ?_; (refine o_does (d_box_d rfl rfl (by decide)) ?_)))) | (refine k_ops ?_; (first | refine o_go (by first | exact .inl rfl | exact .inr ⟨_, _, _, rfl, rfl, rfl⟩) ?_ | refine o_nil ?_ | refine o_no rfl rfl (by decide) ?_ | refine o_casep rfl rfl (fun _ => ?_) (fun _ => ?_))) | (refine k_run ?_; (first | refine r_seq ?_ | refine r_region ?_)))
    all_goals try (exfalso; omega)
    all_goals exact r_ret Try.func33 _ (res_one rfl rfl) ⟨rfl, rfl⟩
  · rw [conS, decide_eq_false h0, Bool.false_and]
    repeat' (first | (refine k_op1 ?_; (first | refine o_sv rfl (by decide) ?_ | (refine k_load ?_; (refine o_val (v_load rfl rfl rfl rfl) rfl rfl (by decide) ?_)) | (refine k_field ?_; (refine o_val (v_field rfl rfl) rfl rfl (by decide) ?_)) | (refine k_box ?_; (refine o_does (d_box_d rfl rfl (by decide)) ?_)))) | (refine k_ops ?_; (first | refine o_go (by first | exact .inl rfl | exact .inr ⟨_, _, _, rfl, rfl, rfl⟩) ?_ | refine o_nil ?_ | refine o_no rfl rfl (by decide) ?_ | refine o_casep rfl rfl (fun _ => ?_) (fun _ => ?_))) | (refine k_run ?_; (first | refine r_seq ?_ | refine r_region ?_)))
    all_goals try (exfalso; omega)
    all_goals exact r_ret Try.func33 _ (res_one rfl rfl) ⟨rfl, rfl⟩
/-- what the index asks of spans -/
def chkS : List Span → Int
  | [] => 0
  | s :: r => if okS s = false then 8 else chkS r
def chkE : List Span → Int
  | [] => 0
  | s :: r => if 2147483647 < s.2 then 8 else chkE r
def chk11 (l : List Span) : Int := if 4096 < l.length then 2 else chkS l
def chk12 (l : List Span) : Int := if chk11 l ≠ 0 then chk11 l else chkE l
theorem rcheck11_s (l : List Span) (hl : l.length ≤ 9223372036854775807) : PureF Try.prog 50 [.d (spans l)] (I .i64 (chk11 l)) := by
  refine pure_of fun H => ?_
  refine spec_of Try.func50 (by kernel_rfl) rfl (by simp) ?_
  dsimp only [Try.f50]
  by_cases hb : 4096 < l.length
  · repeat' (first | (refine k_op1 ?_; (first | refine o_sv rfl (by decide) ?_ | (refine k_blt ?_; (refine o_val (v_lenm rfl) rfl rfl (by decide) ?_)))) | (refine k_ops ?_; (first | refine o_go (by first | exact .inl rfl | exact .inr ⟨_, _, _, rfl, rfl, rfl⟩) ?_ | refine o_nil ?_)) | (refine k_run ?_; (first | refine r_seq ?_ | refine r_region ?_ | refine r_skip ?_ | refine r_block ?_ | refine r_if rfl (fun _ => ?_) (fun _ => ?_))))
    all_goals try (exfalso; omega)
    refine r_ret Try.func50 _ (res_one rfl rfl) ⟨?_, rfl⟩
    rw [chk11, if_pos hb]
  repeat' (first | (refine k_op1 ?_; (first | refine o_sv rfl (by decide) ?_ | (refine k_blt ?_; (refine o_val (v_lenm rfl) rfl rfl (by decide) ?_)))) | (refine k_ops ?_; (first | refine o_go (by first | exact .inl rfl | exact .inr ⟨_, _, _, rfl, rfl, rfl⟩) ?_ | refine o_nil ?_)) | (refine k_run ?_; (first | refine r_seq ?_ | refine r_region ?_ | refine r_skip ?_ | refine r_block ?_ | refine r_if rfl (fun _ => ?_) (fun _ => ?_))))
  all_goals try (exfalso; omega)
  refine r_loop ?_
  refine r_less (r_inv (fun k : Nat => ⟨18, [(8, .d (spans l)), (9, I .i64 l.length), (10, I .i64 (k : Nat))], [], H⟩) (fun k => k ≤ l.length ∧ chkS (l.drop k) = chkS l) (fun k => l.length - k) ?_ 0 ⟨Nat.zero_le _, rfl⟩) rfl rfl
  intro k ⟨h1, h2⟩ ih
  by_cases hlt : k < l.length
  · obtain ⟨s, hs⟩ : ∃ s, l[k]? = some s := ⟨_, List.getElem?_eq_getElem hlt⟩
    have hv := rvalid_s s
    rw [drop_cons hs, chkS] at h2
    cases ho : okS s with
    | false =>
      rw [ho] at h2 hv
      repeat' (first | (refine k_op1 ?_; (first | refine o_sv rfl (by decide) ?_ | (refine k_load ?_; (first | refine o_val (v_loadea rfl rfl) rfl rfl (by decide) ?_ | refine o_val (v_loadp rfl rfl rfl rfl) rfl rfl (by decide) ?_)) | (refine k_index ?_; (refine o_val (v_index rfl (by omega) (idx hs) rfl) rfl rfl (by decide) ?_)) | (refine k_call ?_; (refine o_fn hv rfl (by decide) ?_)) | (refine k_store ?_; (refine o_store0 rfl rfl rfl rfl rfl rfl ?_)) | (refine k_alloc ?_; (refine o_does (d_alloc rfl rfl (by decide)) ?_)))) | (refine k_ops ?_; (first | refine o_go (by first | exact .inl rfl | exact .inr ⟨_, _, _, rfl, rfl, rfl⟩) ?_ | refine o_nil ?_)) | (refine k_run ?_; (first | refine r_seq ?_ | refine r_region ?_ | refine r_true rfl ?_ | refine r_skip ?_ | refine r_block ?_ | refine r_if rfl (fun _ => ?_) (fun _ => ?_) | refine r_exit rfl ?_)))
      all_goals try (exfalso; omega)
      refine r_ret Try.func50 _ (res_one rfl rfl) ⟨?_, rfl⟩
      rw [chk11, if_neg hb, ← h2]; rfl
    | true =>
      rw [ho] at h2 hv
      repeat' (first | (refine k_op1 ?_; (first | refine o_sv rfl (by decide) ?_ | (refine k_load ?_; (first | refine o_val (v_loadea rfl rfl) rfl rfl (by decide) ?_ | refine o_val (v_loadp rfl rfl rfl rfl) rfl rfl (by decide) ?_)) | (refine k_index ?_; (refine o_val (v_index rfl (by omega) (idx hs) rfl) rfl rfl (by decide) ?_)) | (refine k_bin ?_; (refine o_val (v_add (wi64 (by omega) (by omega))) rfl rfl (by decide) ?_)) | (refine k_call ?_; (refine o_fn hv rfl (by decide) ?_)) | (refine k_store ?_; (refine o_store0 rfl rfl rfl rfl rfl rfl ?_)) | (refine k_alloc ?_; (refine o_does (d_alloc rfl rfl (by decide)) ?_)))) | (refine k_ops ?_; (first | refine o_go (by first | exact .inl rfl | exact .inr ⟨_, _, _, rfl, rfl, rfl⟩) ?_ | refine o_nil ?_)) | (refine k_run ?_; (first | refine r_seq ?_ | refine r_region ?_ | refine r_false rfl ?_ | refine r_skip ?_ | refine r_block ?_ | refine r_inBlock ?_ | refine r_if rfl (fun _ => ?_) (fun _ => ?_) | refine r_exit rfl ?_)))
      all_goals try (exfalso; omega)
      exact r_less (ih (k + 1) ⟨by omega, by simpa using h2⟩ (by omega)) rfl rfl
  · obtain rfl : k = l.length := by omega
    rw [List.drop_length, chkS] at h2
    repeat' (first | (refine k_op1 ?_; (refine o_sv rfl (by decide) ?_)) | (refine k_ops ?_; (first | refine o_go (by first | exact .inl rfl | exact .inr ⟨_, _, _, rfl, rfl, rfl⟩) ?_ | refine o_nil ?_)) | (refine k_run ?_; (first | refine r_seq ?_ | refine r_region ?_ | refine r_skip ?_ | refine r_block ?_ | refine r_if rfl (fun _ => ?_) (fun _ => ?_) | refine r_exit rfl ?_)))
    all_goals try (exfalso; omega)
    refine r_ret Try.func50 _ (res_one rfl rfl) ⟨?_, rfl⟩
    rw [chk11, if_neg hb, ← h2]
theorem rcheck12_s (l : List Span) (hl : l.length ≤ 9223372036854775807) : PureF Try.prog 26 [.d (spans l)] (I .i64 (chk12 l)) := by
  refine pure_of fun H => ?_
  refine spec_of Try.func26 (by kernel_rfl) rfl (by simp) ?_
  dsimp only [Try.f26]
  have hc := rcheck11_s l hl
  by_cases h0 : chk11 l = 0
  · rw [chk12, if_neg (by omega)]
    rw [h0] at hc
    repeat' (first | (refine k_op1 ?_; (first | refine o_sv rfl (by decide) ?_ | (refine k_blt ?_; (refine o_val (v_lenm rfl) rfl rfl (by decide) ?_)) | (refine k_call ?_; (refine o_fn hc rfl (by decide) ?_)))) | (refine k_ops ?_; (first | refine o_go (by first | exact .inl rfl | exact .inr ⟨_, _, _, rfl, rfl, rfl⟩) ?_ | refine o_nil ?_)) | (refine k_run ?_; (first | refine r_seq ?_ | refine r_region ?_ | refine r_false rfl ?_ | refine r_skip ?_ | refine r_block ?_)))
    all_goals try (exfalso; omega)
    refine r_loop ?_
    refine r_less (r_inv (fun k : Nat => ⟨21, [(11, .d (spans l)), (12, I .i64 l.length), (13, I .i64 (k : Nat))], [], H⟩) (fun k => k ≤ l.length ∧ chkE (l.drop k) = chkE l) (fun k => l.length - k) ?_ 0 ⟨Nat.zero_le _, rfl⟩) rfl rfl
    intro k ⟨h1, h2⟩ ih
    by_cases hlt : k < l.length
    · obtain ⟨s, hs⟩ : ∃ s, l[k]? = some s := ⟨_, List.getElem?_eq_getElem hlt⟩
      rw [drop_cons hs, chkE] at h2
      repeat' (first | (refine k_op1 ?_; (first | refine o_sv rfl (by decide) ?_ | (refine k_load ?_; (first | refine o_val (v_load rfl rfl rfl rfl) rfl rfl (by decide) ?_ | refine o_val (v_loadea rfl rfl) rfl rfl (by decide) ?_)) | (refine k_field ?_; (refine o_val (v_field rfl rfl) rfl rfl (by decide) ?_)) | (refine k_index ?_; (refine o_val (v_index rfl (by omega) (idx hs) rfl) rfl rfl (by decide) ?_)) | (refine k_bin ?_; (refine o_val (v_add (wi64 (by omega) (by omega))) rfl rfl (by decide) ?_)) | (refine k_store ?_; (refine o_store0 rfl rfl rfl rfl rfl rfl ?_)) | (refine k_alloc ?_; (refine o_does (d_alloc rfl rfl (by decide)) ?_)))) | (refine k_ops ?_; (first | refine o_go (by first | exact .inl rfl | exact .inr ⟨_, _, _, rfl, rfl, rfl⟩) ?_ | refine o_nil ?_)) | (refine k_run ?_; (first | refine r_seq ?_ | refine r_region ?_ | refine r_skip ?_ | refine r_block ?_ | refine r_inBlock ?_ | refine r_if rfl (fun _ => ?_) (fun _ => ?_) | refine r_exit rfl ?_)))
      all_goals try (exfalso; omega)
      all_goals first
        | (refine r_ret Try.func26 _ (res_one rfl rfl) ⟨?_, rfl⟩
           rw [← h2, if_pos (by omega)])
        | exact r_less (ih (k + 1) ⟨by omega, by rw [if_neg (by omega)] at h2; exact h2⟩ (by omega)) rfl rfl
    · obtain rfl : k = l.length := by omega
      rw [List.drop_length, chkE] at h2
      repeat' (first | (refine k_op1 ?_; (refine o_sv rfl (by decide) ?_)) | (refine k_ops ?_; (first | refine o_go (by first | exact .inl rfl | exact .inr ⟨_, _, _, rfl, rfl, rfl⟩) ?_ | refine o_nil ?_)) | (refine k_run ?_; (first | refine r_seq ?_ | refine r_region ?_ | refine r_skip ?_ | refine r_block ?_ | refine r_if rfl (fun _ => ?_) (fun _ => ?_) | refine r_exit rfl ?_)))
      all_goals try (exfalso; omega)
      refine r_ret Try.func26 _ (res_one rfl rfl) ⟨?_, rfl⟩
      rw [← h2]
  · rw [chk12, if_pos h0]
    repeat' (first | (refine k_op1 ?_; (first | refine o_sv rfl (by decide) ?_ | (refine k_blt ?_; (refine o_val (v_lenm rfl) rfl rfl (by decide) ?_)) | (refine k_call ?_; (refine o_fn hc rfl (by decide) ?_)))) | (refine k_ops ?_; (first | refine o_go (by first | exact .inl rfl | exact .inr ⟨_, _, _, rfl, rfl, rfl⟩) ?_ | refine o_nil ?_)) | (refine k_run ?_; (first | refine r_seq ?_ | refine r_region ?_ | refine r_skip ?_ | refine r_block ?_ | refine r_ifn rfl (fun _ => ?_) (fun _ => ?_))))
    all_goals try (exfalso; omega)
    exact r_ret Try.func26 _ (res_one rfl rfl) ⟨rfl, rfl⟩
end Go.Proofs.Ytiapeheclfkdmaa
namespace Go.Proofs.Ytiapeheclfkdmaa
open Go.Ab
set_option maxHeartbeats 20000000
set_option linter.unusedVariables false
set_option linter.unusedSimpArgs false
attribute [local irreducible] Run Ops Op1 Does Val Tr PureF Eff1 NF Rel EffV EffM

theorem spanEq {x y : Operand} {a b : Span} (w : World) (own : Nat → Prop) (us vs : List Value) (hu : DR w own (.agg (spc a)) (.agg us.toArray)) (hv : DR w own (.agg (spc b)) (.agg vs.toArray)) :
    (do eqGuard .eql 35 x y (.agg us.toArray) (.agg vs.toArray); binOp .eql 35 (.agg us.toArray) (.agg vs.toArray) : Sem Value).run Try.prog w = .ok (.bool (decide (a = b))) w := by
  have e1 := DR.lits (xs := [.int .i64 a.1, .int .i64 a.2]) hu
  have e2 := DR.lits (xs := [.int .i64 b.1, .int .i64 b.2]) hv
  subst e1 e2
  have hf : (Try.prog.fieldsOf 35).toList.map (fun f => (f.name == "_", f.type, f.offset)) = [(false, 3, 0), (false, 3, 1)] := by kernel_rfl
  have hu : Try.prog.underlying 35 = some (.struct (Try.prog.fieldsOf 35)) := by kernel_rfl
  have hs : Try.prog.stoodInHeld 35 = false := by kernel_rfl
  have hg : Try.prog.eqGuardType Try.prog.depth 35 = false := by kernel_rfl
  have hint : Try.prog.underlying 3 = some (.int .i64) := T3.int rfl
  have ha3 : ∀ w, (isAgg 3).run Try.prog w = .ok false w := fun w => T3.isAgg w
  rw [Sem.run_bind, run_eqGuard_agg _ _ _ _ _ _ _ hg, Result.andThen_ok, run_eql_struct, run_equalIn_struct w 9999 35 _ _ hu hs]
  generalize (Try.prog.fieldsOf 35).toList = fs at hf
  obtain ⟨f1, f2, rfl⟩ : ∃ f1 f2, fs = [f1, f2] := by
    have hl := congrArg List.length hf
    simp only [List.length_map, List.length_cons, List.length_nil] at hl
    match fs, hl with
    | [a, b], _ => exact ⟨a, b, rfl⟩
  simp only [List.map_cons, List.map_nil, List.cons.injEq, Prod.mk.injEq, beq_eq_false_iff_ne, ne_eq, and_true] at hf
  obtain ⟨⟨n1, t1, o1⟩, n2, t2, o2⟩ := hf
  have hab : decide (a = b) = (decide (a.1 = b.1) && decide (a.2 = b.2)) := by
    rw [Bool.eq_iff_iff]; simp [Prod.ext_iff]
  simp only [Op.eqFields, n1, n2, ne_eq, not_false_eq_true, if_true, t1, t2, o1, o2, part, Sem.run_bind, ha3, Result.andThen_ok, Bool.false_eq_true, if_false, hab]
  by_cases h1 : a.1 = b.1
  · by_cases h2 : a.2 = b.2 <;> simp [run_equalIn_int _ _ _ _ _ _ _ hint, h1, h2]
  · simp [run_equalIn_int _ _ _ _ _ _ _ hint, h1]
def relU (a b : Span) : Int := if a = b then 7 else if a.1 = b.1 then 6 else if a.2 < b.1 then 1 else if a.2 = b.1 then 2 else if a.2 < b.2 then 3 else if a.2 = b.2 then 4 else 5
def swp (a b : Span) : Prop := b.1 < a.1 ∨ (a.1 = b.1 ∧ b.2 < a.2)
instance (a b : Span) : Decidable (swp a b) := by unfold swp; infer_instance
def relN (a b : Span) : Int := if okS a = false ∨ okS b = false then 0 else if swp a b then 14 - relU b a else relU a b
theorem rel_bad (a b : Span) (h : okS a = false ∨ okS b = false) : PureF Try.prog 20 [.d (Dsp a), .d (Dsp b)] (I .i64 0) := by
  refine pure_of fun H => ?_
  refine spec_of Try.func20 (by kernel_rfl) rfl (by simp) ?_
  dsimp only [Try.f20]
  have h1 := valid_s a
  have h2 := valid_s b
  cases ha : okS a with
  | false =>
    rw [ha] at h1
    repeat' (first | (refine k_op1 ?_; (first | refine o_sv rfl (by decide) ?_ | (refine k_load ?_; (refine o_val (v_loada rfl rfl rfl) rfl rfl (by decide) ?_)) | (refine k_call ?_; (refine o_fn h1 rfl (by decide) ?_)) | (refine k_box ?_; (refine o_does (d_box_d rfl rfl (by decide)) ?_)))) | (refine k_ops ?_; (first | refine o_go (by first | exact .inl rfl | exact .inr ⟨_, _, _, rfl, rfl, rfl⟩) ?_ | refine o_nil ?_ | refine o_no rfl rfl (by decide) ?_)) | (refine k_run ?_; (first | refine r_seq ?_ | refine r_region ?_ | refine r_true rfl ?_)))
    all_goals try (exfalso; omega)
    all_goals exact r_ret Try.func20 _ (res_one rfl rfl) ⟨rfl, rfl⟩
  | true =>
    rw [ha] at h1
    have hb : okS b = false := by rcases h with h | h; rw [ha] at h; cases h; exact h
    rw [hb] at h2
    repeat' (first | (refine k_op1 ?_; (first | refine o_sv rfl (by decide) ?_ | (refine k_load ?_; (refine o_val (v_loada rfl rfl rfl) rfl rfl (by decide) ?_)) | (refine k_call ?_; (first | refine o_fn h1 rfl (by decide) ?_ | refine o_fn h2 rfl (by decide) ?_)) | (refine k_box ?_; (refine o_does (d_box_d rfl rfl (by decide)) ?_)))) | (refine k_ops ?_; (first | refine o_go (by first | exact .inl rfl | exact .inr ⟨_, _, _, rfl, rfl, rfl⟩) ?_ | refine o_nil ?_)) | (refine k_run ?_; (first | refine r_seq ?_ | refine r_region ?_ | refine r_true rfl ?_)))
    all_goals try (exfalso; omega)
    all_goals exact r_ret Try.func20 _ (res_one rfl rfl) ⟨rfl, rfl⟩
theorem rel_up (a b : Span) (ha : okS a = true) (hb : okS b = true) (h : ¬ swp a b) : PureF Try.prog 20 [.d (Dsp a), .d (Dsp b)] (I .i64 (relU a b)) := by
  refine pure_of fun H => ?_
  refine spec_of Try.func20 (by kernel_rfl) rfl (by simp) ?_
  dsimp only [Try.f20]
  have h1 := valid_s a
  have h2 := valid_s b
  rw [ha] at h1
  rw [hb] at h2
  simp only [swp, not_or, not_and] at h
  obtain ⟨g1, g2⟩ := h
  have hne : ∀ (h : ¬ (a.1 = b.1 ∧ a.2 = b.2)), a ≠ b := fun h e => h ⟨by rw [e], by rw [e]⟩
  by_cases hab : a = b
  · subst hab
    repeat' (first | (refine k_op1 ?_; (first | refine o_sv rfl (by decide) ?_ | (refine k_load ?_; (first | refine o_val (v_loada rfl rfl rfl) rfl rfl (by decide) ?_ | refine o_val (v_load rfl rfl rfl rfl) rfl rfl (by decide) ?_)) | (refine k_field ?_; (refine o_val (v_field rfl rfl) rfl rfl (by decide) ?_)) | (refine k_bin ?_; (refine o_val (v_agg (op := .eql) (tx := 35) spanEq) rfl rfl (by decide) ?_)) | (refine k_call ?_; (refine o_fn h1 rfl (by decide) ?_)) | (refine k_box ?_; (refine o_does (d_box_d rfl rfl (by decide)) ?_)))) | (refine k_ops ?_; (first | refine o_go (by first | exact .inl rfl | exact .inr ⟨_, _, _, rfl, rfl, rfl⟩) ?_ | refine o_nil ?_ | refine o_no rfl rfl (by decide) ?_ | refine o_no2 rfl rfl (by decide) ?_ | refine o_casep rfl rfl (fun _ => ?_) (fun _ => ?_))) | (refine k_run ?_; (first | refine r_seq ?_ | refine r_region ?_ | refine r_true rfl ?_ | refine r_false rfl ?_ | refine r_skip ?_ | refine r_block ?_ | refine r_inBlock ?_ | refine r_if rfl (fun _ => ?_) (fun _ => ?_))))
    all_goals try (exfalso; omega)
    all_goals try (exfalso; simp_all; done)
    all_goals (refine r_ret Try.func20 _ (res_one rfl rfl) ⟨?_, rfl⟩; rw [relU, if_pos rfl])
  repeat' (first | (refine k_op1 ?_; (first | refine o_sv rfl (by decide) ?_ | (refine k_load ?_; (first | refine o_val (v_loada rfl rfl rfl) rfl rfl (by decide) ?_ | refine o_val (v_load rfl rfl rfl rfl) rfl rfl (by decide) ?_)) | (refine k_field ?_; (refine o_val (v_field rfl rfl) rfl rfl (by decide) ?_)) | (refine k_bin ?_; (refine o_val (v_agg (op := .eql) (tx := 35) spanEq) rfl rfl (by decide) ?_)) | (refine k_call ?_; (first | refine o_fn h1 rfl (by decide) ?_ | refine o_fn h2 rfl (by decide) ?_)) | (refine k_box ?_; (refine o_does (d_box_d rfl rfl (by decide)) ?_)))) | (refine k_ops ?_; (first | refine o_go (by first | exact .inl rfl | exact .inr ⟨_, _, _, rfl, rfl, rfl⟩) ?_ | refine o_nil ?_ | refine o_no rfl rfl (by decide) ?_ | refine o_no2 rfl rfl (by decide) ?_ | refine o_casep rfl rfl (fun _ => ?_) (fun _ => ?_))) | (refine k_run ?_; (first | refine r_seq ?_ | refine r_region ?_ | refine r_true rfl ?_ | refine r_false rfl ?_ | refine r_skip ?_ | refine r_block ?_ | refine r_inBlock ?_ | refine r_if rfl (fun _ => ?_) (fun _ => ?_))))
  all_goals try (exfalso; omega)
  all_goals try (exfalso; simp_all; done)
  all_goals (refine r_ret Try.func20 _ (res_one rfl rfl) ⟨?_, rfl⟩; rw [relU, if_neg hab])
  all_goals first
    | (rw [if_pos (by omega)]; done)
    | (rw [if_neg (by omega), if_pos (by omega)]; done)
    | (rw [if_neg (by omega), if_neg (by omega), if_pos (by omega)]; done)
    | (rw [if_neg (by omega), if_neg (by omega), if_neg (by omega), if_pos (by omega)]; done)
    | (rw [if_neg (by omega), if_neg (by omega), if_neg (by omega), if_neg (by omega), if_pos (by omega)]; done)
    | (rw [if_neg (by omega), if_neg (by omega), if_neg (by omega), if_neg (by omega), if_neg (by omega)]; done)
theorem relU_rng (a b : Span) : 1 ≤ relU a b ∧ relU a b ≤ 7 := by
  rw [relU]; repeat' split
  all_goals omega
theorem rel_s (a b : Span) : PureF Try.prog 20 [.d (Dsp a), .d (Dsp b)] (I .i64 (relN a b)) := by
  by_cases hbad : okS a = false ∨ okS b = false
  · rw [relN, if_pos hbad]; exact rel_bad a b hbad
  have ha : okS a = true := by cases h : okS a with
    | true => rfl
    | false => exact absurd (.inl h) hbad
  have hb : okS b = true := by cases h : okS b with
    | true => rfl
    | false => exact absurd (.inr h) hbad
  rw [relN, if_neg hbad]
  by_cases h : swp a b
  · rw [if_pos h]
    have hn : ¬ swp b a := by rw [swp] at h ⊢; omega
    have hc := rel_up b a hb ha hn
    have hr := relU_rng b a
    refine pure_of fun H => ?_
    refine spec_of Try.func20 (by kernel_rfl) rfl (by simp) ?_
    dsimp only [Try.f20]
    have h1 := valid_s a
    have h2 := valid_s b
    rw [ha] at h1
    rw [hb] at h2
    rw [swp] at h
    repeat' (first | (refine k_op1 ?_; (first | refine o_sv rfl (by decide) ?_ | (refine k_load ?_; (first | refine o_val (v_loada rfl rfl rfl) rfl rfl (by decide) ?_ | refine o_val (v_load rfl rfl rfl rfl) rfl rfl (by decide) ?_)) | (refine k_field ?_; (refine o_val (v_field rfl rfl) rfl rfl (by decide) ?_)) | (refine k_bin ?_; (refine o_val (v_sub (wi64 (by omega) (by omega))) rfl rfl (by decide) ?_)) | (refine k_call ?_; (first | refine o_fn h1 rfl (by decide) ?_ | refine o_fn h2 rfl (by decide) ?_ | refine o_fn hc rfl (by decide) ?_)) | (refine k_box ?_; (refine o_does (d_box_d rfl rfl (by decide)) ?_)))) | (refine k_ops ?_; (first | refine o_go (by first | exact .inl rfl | exact .inr ⟨_, _, _, rfl, rfl, rfl⟩) ?_ | refine o_nil ?_ | refine o_no rfl rfl (by decide) ?_ | refine o_no2 rfl rfl (by decide) ?_ | refine o_casep rfl rfl (fun _ => ?_) (fun _ => ?_))) | (refine k_run ?_; (first | refine r_seq ?_ | refine r_region ?_ | refine r_true rfl ?_ | refine r_false rfl ?_ | refine r_skip ?_ | refine r_block ?_ | refine r_if rfl (fun _ => ?_) (fun _ => ?_))))
    all_goals try (exfalso; omega)
    all_goals try (exfalso; simp_all; done)
    all_goals exact r_ret Try.func20 _ (res_one rfl rfl) ⟨rfl, rfl⟩
  · rw [if_neg h]; exact rel_up a b ha hb h
/-- -1, 0 or 1 -/
def cmpI (x y : Int) : Int := if x < y then -1 else if y < x then 1 else 0
theorem nan_s (x : Int) : PureF Try.prog 58 [I .i64 x] (B false) := by
  refine pure_of fun H => ?_
  refine spec_of Try.func58 (by kernel_rfl) rfl (by simp) ?_
  dsimp only [Try.f58]
  repeat' (first | (refine k_op1 ?_; (refine o_sv rfl (by decide) ?_)) | (refine k_ops ?_; (first | refine o_go (by first | exact .inl rfl | exact .inr ⟨_, _, _, rfl, rfl, rfl⟩) ?_ | refine o_nil ?_)) | (refine k_run ?_; (first | refine r_seq ?_ | refine r_region ?_)))
  refine r_ret Try.func58 _ (res_one rfl rfl) ⟨?_, rfl⟩
  simp
theorem cmp_s (x y : Int) : PureF Try.prog 48 [I .i64 x, I .i64 y] (I .i64 (cmpI x y)) := by
  refine pure_of fun H => ?_
  refine spec_of Try.func48 (by kernel_rfl) rfl (by simp) ?_
  dsimp only [Try.f48]
  have h1 := nan_s x
  have h2 := nan_s y
  repeat' (first | (refine k_op1 ?_; (first | refine o_sv rfl (by decide) ?_ | (refine k_call ?_; (first | refine o_fn h1 rfl (by decide) ?_ | refine o_fn h2 rfl (by decide) ?_)))) | (refine k_ops ?_; (first | refine o_go (by first | exact .inl rfl | exact .inr ⟨_, _, _, rfl, rfl, rfl⟩) ?_ | refine o_nil ?_)) | (refine k_run ?_; (first | refine r_seq ?_ | refine r_region ?_ | refine r_false rfl ?_ | refine r_skip ?_ | refine r_if rfl (fun _ => ?_) (fun _ => ?_))))
  all_goals try (exfalso; omega)
  all_goals (refine r_ret Try.func48 _ (res_one rfl rfl) ⟨?_, rfl⟩; rw [cmpI])
  all_goals first
    | (rw [if_pos (by omega)]; done)
    | (rw [if_neg (by omega), if_pos (by omega)]; done)
    | (rw [if_neg (by omega), if_neg (by omega)]; done)
abbrev Ix (l : List Span) := {i : Nat // i < l.length}
def ixD {l : List Span} (i : Ix l) : D := Dint (i.1 : Nat)
def icmp {l : List Span} (a b : Ix l) : Int := cmpI (l.getD a.1 (0, 0)).1 (l.getD b.1 (0, 0)).1
theorem cmpX_s (l : List Span) (sl j : Nat) (x y : Ix l) : Eff1 Try.prog 47 [.d (ixD x), .d (ixD y), .ptr (j, sl) 0] [((j, sl), .box [.d (spans l)])] [] (I .i64 (icmp x y)) := by
  refine eff_of fun H hH => ?_
  have hH0 := hH ((j, sl), .box [.d (spans l)]) (by simp)
  refine spec_of Try.func47 (by kernel_rfl) rfl (by simp) ?_
  dsimp only [Try.f47]
  have hx : l[x.1]? = some (l.getD x.1 (0, 0)) := by rw [List.getElem?_eq_getElem x.2, List.getD, List.getElem?_eq_getElem x.2]; rfl
  have hy : l[y.1]? = some (l.getD y.1 (0, 0)) := by rw [List.getElem?_eq_getElem y.2, List.getD, List.getElem?_eq_getElem y.2]; rfl
  have hc := cmp_s (l.getD x.1 (0, 0)).1 (l.getD y.1 (0, 0)).1
  repeat' (first | (refine k_op1 ?_; (refine o_sv rfl (by decide) ?_)) | (refine k_ops ?_; (first | refine o_go (by first | exact .inl rfl | exact .inr ⟨_, _, _, rfl, rfl, rfl⟩) ?_ | refine o_nil ?_)) | (refine k_run ?_; (first | refine r_seq ?_ | refine r_region ?_ | refine r_tr ?_)) | (refine k_tr ?_; (first | (refine kt_end ?_; refine t_end mix (by kernel_rfl) ?_) | refine t_sv rfl (by first | exact rfl | exact ⟨_, rfl, rfl, rfl⟩) (by decide) ?_ | (refine kt_load ?_; (first | refine t_val (v_load (b := .box [.d (spans l)]) rfl rfl rfl rfl) (by first | exact rfl | exact ⟨_, rfl, rfl, rfl⟩) rfl (bk1 hH0) (by decide) ?_ | refine t_val (v_loade rfl rfl rfl) (by first | exact rfl | exact ⟨_, rfl, rfl, rfl⟩) rfl rfl (by decide) ?_)) | (refine kt_field ?_; (refine t_val (v_fielde rfl rfl) (by first | exact rfl | exact ⟨_, rfl, rfl, rfl⟩) rfl rfl (by decide) ?_)) | (refine kt_index ?_; (first | refine t_val (v_index rfl (by omega) (idx hx) rfl) (by first | exact rfl | exact ⟨_, rfl, rfl, rfl⟩) rfl rfl (by decide) ?_ | refine t_val (v_index rfl (by omega) (idx hy) rfl) (by first | exact rfl | exact ⟨_, rfl, rfl, rfl⟩) rfl rfl (by decide) ?_)) | (refine kt_call ?_; (refine t_fn hc (by first | exact rfl | exact ⟨_, rfl, rfl, rfl⟩) rfl (by decide) ?_)))))
  exact r_ret Try.func47 _ (res_one rfl rfl) ⟨rfl, rfl⟩
end Go.Proofs.Ytiapeheclfkdmaa
