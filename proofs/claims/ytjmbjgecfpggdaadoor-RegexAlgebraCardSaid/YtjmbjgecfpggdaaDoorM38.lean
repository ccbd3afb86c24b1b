/- A part of the proof: G38. -/
import Derived.Test.YtjmbjgecfpggdaaDoorRz
set_option linter.all false
set_option linter.unusedVariables false
set_option linter.unusedSimpArgs false
namespace Go.Proofs.YtjmbjgecfpggdaaDoor
open Go.Ab Go.Rx
set_option maxHeartbeats 20000000
set_option maxRecDepth 100000
set_option linter.unusedVariables false
set_option linter.unusedSimpArgs false
set_option linter.unusedSectionVars false
attribute [local irreducible] Run Ops Op1 Does Val Tr PureF Eff1 NF Rel EffV EffM EffN
mutual
/-- how many repetitions stand within one another -/
def nst : Rx → Int
  | .mk op _ _ _ ks => if op = 4 then nstL ks 0 + 1 else nstL ks 0
def nstL : List Rx → Int → Int
  | [], n => n
  | k :: ks, n => nstL ks (max n (nst k))
end
theorem nst_bd : (∀ e : Rx, 0 ≤ nst e ∧ nst e ≤ sz e) ∧ ∀ (l : List Rx) (n : Int), 0 ≤ n → n ≤ nstL l n ∧ nstL l n ≤ max n (szL l) := by
  refine Rx.ind (fun op mn mx rs ks ih => ?_) (fun n h => by rw [nstL, szL]; omega) (fun k ks hk ih n h => ?_)
  · have := ih 0 (by decide)
    rw [nst, sz]
    split <;> omega
  · have := ih (max n (nst k)) (by omega)
    rw [nstL, szL]; omega
theorem repeats_s : ∀ e : Rx, fit e → sz e ≤ 1000000 → PureF Tryd.prog 33 [.d (Drx e)] (I .i64 (nst e)) := by
  refine Rx.ind' fun op mn mx rs ks ih hfit hsz => ?_
  obtain ⟨hf1, hf2, hf3⟩ := hfit
  rw [sz] at hsz
  have hb := nst_bd.2 ks 0 (by decide)
  rw [Drx_mk]
  refine pure_of fun H => ?_
  refine spec_of Tryd.func33 (by kernel_rfl) rfl (by simp) ?_
  dsimp only [Tryd.f33]
  rw [nst]
  obtain ⟨F, hF⟩ : ∃ F, nstL ks 0 = F := ⟨_, rfl⟩
  rw [hF] at hb ⊢
  repeat' (first | (refine k_op1 ?_; (first | refine o_sv rfl (by decide) ?_ | (refine k_load ?_; (refine o_val (v_load rfl rfl rfl rfl) rfl rfl (by decide) ?_)) | (refine k_field ?_; (refine o_val (v_field rfl rfl) rfl rfl (by decide) ?_)) | (refine k_blt ?_; (refine o_val (v_lenm rfl) rfl rfl (by decide) ?_)) | (refine k_box ?_; (refine o_does (d_box_d rfl rfl (by decide)) ?_)))) | (refine k_ops ?_; (first | refine o_go (by first | exact .inl rfl | exact .inr ⟨_, _, _, rfl, rfl, rfl⟩) ?_ | refine o_nil ?_)) | (refine k_run ?_; (first | refine r_seq ?_ | refine r_region ?_ | refine r_block ?_)))
  all_goals try (exfalso; omega)
  refine r_loop ?_
  refine r_less (r_inv (fun q : Nat × Int => ⟨24, [(1, .ptr (0, 1) 0), (3, I .i64 q.2), (7, .d (.slice (ks.map rxc))), (8, I .i64 ks.length), (9, I .i64 (q.1 : Nat))], [(1, .box ((rx5 op mn mx rs ks).map .d))], H⟩) (fun q => q.1 ≤ ks.length ∧ nstL (ks.drop q.1) q.2 = F ∧ 0 ≤ q.2) (fun q => ks.length - q.1) ?_ (0, 0) ⟨Nat.zero_le _, hF, by decide⟩) rfl rfl
  rintro ⟨i, a⟩ ⟨i1, i2, i3⟩ ihl
  simp only at i1 i2 i3 ihl ⊢
  by_cases hlt : i < ks.length
  · obtain ⟨k, hk⟩ : ∃ k, ks[i]? = some k := ⟨_, List.getElem?_eq_getElem hlt⟩
    have hszk : sz k ≤ szL ks := by
      have : ∀ (l : List Rx) (k : Rx), k ∈ l → sz k ≤ szL l := fun l => by
        induction l with
        | nil => intro k h; simp at h
        | cons x l ih =>
          intro k h
          rw [List.mem_cons] at h
          rw [szL]
          rcases h with rfl | h
          · omega
          · have := ih k h; omega
      exact this ks k (List.mem_of_getElem? hk)
    have hc := ih k (List.mem_of_getElem? hk) (fitL_mem hf3 k (List.mem_of_getElem? hk)) (by omega)
    have hnk := nst_bd.1 k
    rw [drop_cons hk, nstL] at i2
    generalize nst k = nk at *
    obtain ⟨op', mn', mx', rs', ks'⟩ := k
    rw [Drx_mk] at hc
    repeat' (first | (refine k_op1 ?_; (first | refine o_sv rfl (by decide) ?_ | (refine k_load ?_; (first | refine o_val (v_load rfl rfl rfl rfl) rfl rfl (by decide) ?_ | refine o_val (v_loadea rfl rfl) rfl rfl (by decide) ?_ | refine o_val (v_loadp rfl rfl rfl rfl) rfl rfl (by decide) ?_)) | (refine k_field ?_; (refine o_val (v_field rfl rfl) rfl rfl (by decide) ?_)) | (refine k_index ?_; (refine o_val (v_index (ys := ks.map rxc) rfl (by omega) (idx_rx hk) rfl) rfl rfl (by decide) ?_)) | (refine k_bin ?_; (refine o_val (v_add (wi64 (by omega) (by omega))) rfl rfl (by decide) ?_)) | (refine k_blt ?_; (refine o_val v_max rfl rfl (by decide) ?_)) | (refine k_call ?_; (refine o_fn hc rfl (by decide) ?_)) | (refine k_store ?_; (refine o_store0 rfl rfl rfl rfl rfl rfl ?_)) | (refine k_alloc ?_; (refine o_does (d_alloc rfl rfl (by decide)) ?_)))) | (refine k_ops ?_; (first | refine o_go (by first | exact .inl rfl | exact .inr ⟨_, _, _, rfl, rfl, rfl⟩) ?_ | refine o_nil ?_)) | (refine k_run ?_; (first | refine r_seq ?_ | refine r_region ?_ | refine r_skip ?_ | refine r_block ?_ | refine r_inBlock ?_ | refine r_if rfl (fun _ => ?_) (fun _ => ?_) | refine r_exit rfl ?_)))
    all_goals try (exfalso; omega)
    all_goals exact r_less (ihl (i + 1, max a nk) ⟨by simp only; omega, i2, by simp only; omega⟩ (by simp only; omega)) rfl rfl
  · obtain rfl : i = ks.length := by omega
    rw [List.drop_length, nstL] at i2
    subst i2
    by_cases o4 : op = 4
    · rw [if_pos o4]
      repeat' (first | (refine k_op1 ?_; (first | refine o_sv rfl (by decide) ?_ | (refine k_load ?_; (refine o_val (v_load rfl rfl rfl rfl) rfl rfl (by decide) ?_)) | (refine k_field ?_; (refine o_val (v_field rfl rfl) rfl rfl (by decide) ?_)) | (refine k_bin ?_; (refine o_val (v_add (wi64 (by omega) (by omega))) rfl rfl (by decide) ?_)))) | (refine k_ops ?_; (first | refine o_go (by first | exact .inl rfl | exact .inr ⟨_, _, _, rfl, rfl, rfl⟩) ?_ | refine o_nil ?_)) | (refine k_run ?_; (first | refine r_seq ?_ | refine r_region ?_ | refine r_skip ?_ | refine r_block ?_ | refine r_if rfl (fun _ => ?_) (fun _ => ?_) | refine r_exit rfl ?_)))
      all_goals try (exfalso; omega)
      all_goals exact r_ret Tryd.func33 _ (res_one rfl rfl) ⟨rfl, rfl⟩
    · rw [if_neg o4]
      repeat' (first | (refine k_op1 ?_; (first | refine o_sv rfl (by decide) ?_ | (refine k_load ?_; (refine o_val (v_load rfl rfl rfl rfl) rfl rfl (by decide) ?_)) | (refine k_field ?_; (refine o_val (v_field rfl rfl) rfl rfl (by decide) ?_)) | (refine k_bin ?_; (refine o_val (v_add (wi64 (by omega) (by omega))) rfl rfl (by decide) ?_)))) | (refine k_ops ?_; (first | refine o_go (by first | exact .inl rfl | exact .inr ⟨_, _, _, rfl, rfl, rfl⟩) ?_ | refine o_nil ?_)) | (refine k_run ?_; (first | refine r_seq ?_ | refine r_region ?_ | refine r_skip ?_ | refine r_block ?_ | refine r_if rfl (fun _ => ?_) (fun _ => ?_) | refine r_exit rfl ?_)))
      all_goals try (exfalso; omega)
      all_goals exact r_ret Tryd.func33 _ (res_one rfl rfl) ⟨rfl, rfl⟩
def nestL (l : List Rx) : Bool := l.any fun e => decide (4 < nst e)
theorem nested_s (l : List Rx) (hf : fitL l) (hl : l.length ≤ 9223372036854775807) (hs : ∀ e ∈ l, sz e ≤ 1000000) : PureF Tryd.prog 15 [.d (.slice (l.map rxc))] (B (nestL l)) := by
  refine pure_of fun H => ?_
  refine spec_of Tryd.func15 (by kernel_rfl) rfl (by simp) ?_
  dsimp only [Tryd.f15]
  repeat' (first | (refine k_op1 ?_; (first | refine o_sv rfl (by decide) ?_ | (refine k_blt ?_; (refine o_val (v_lenm rfl) rfl rfl (by decide) ?_)))) | (refine k_ops ?_; (first | refine o_go (by first | exact .inl rfl | exact .inr ⟨_, _, _, rfl, rfl, rfl⟩) ?_ | refine o_nil ?_)) | (refine k_run ?_; (first | refine r_seq ?_ | refine r_region ?_ | refine r_block ?_)))
  all_goals try (exfalso; omega)
  refine r_loop ?_
  refine r_less (r_inv (fun q : Nat => ⟨15, [(5, .d (.slice (l.map rxc))), (6, I .i64 l.length), (7, I .i64 (q : Nat))], [], H⟩) (fun q => q ≤ l.length ∧ nestL (l.drop q) = nestL l) (fun q => l.length - q) ?_ 0 ⟨Nat.zero_le _, rfl⟩) rfl rfl
  rintro i ⟨i1, i2⟩ ihl
  by_cases hlt : i < l.length
  · obtain ⟨k, hk⟩ : ∃ k, l[i]? = some k := ⟨_, List.getElem?_eq_getElem hlt⟩
    have hc := repeats_s k (fitL_mem hf k (List.mem_of_getElem? hk)) (hs k (List.mem_of_getElem? hk))
    rw [drop_cons hk, nestL, List.any_cons, ← nestL] at i2
    generalize nst k = nk at *
    obtain ⟨op', mn', mx', rs', ks'⟩ := k
    rw [Drx_mk] at hc
    by_cases h4 : 4 < nk
    · rw [decide_eq_true h4, Bool.true_or] at i2
      rw [← i2]
      repeat' (first | (refine k_op1 ?_; (first | refine o_sv rfl (by decide) ?_ | (refine k_load ?_; (first | refine o_val (v_loadea rfl rfl) rfl rfl (by decide) ?_ | refine o_val (v_loadp rfl rfl rfl rfl) rfl rfl (by decide) ?_)) | (refine k_index ?_; (refine o_val (v_index (ys := l.map rxc) rfl (by omega) (idx_rx hk) rfl) rfl rfl (by decide) ?_)) | (refine k_bin ?_; (refine o_val (v_add (wi64 (by omega) (by omega))) rfl rfl (by decide) ?_)) | (refine k_call ?_; (refine o_fn hc rfl (by decide) ?_)) | (refine k_store ?_; (refine o_store0 rfl rfl rfl rfl rfl rfl ?_)) | (refine k_alloc ?_; (refine o_does (d_alloc rfl rfl (by decide)) ?_)))) | (refine k_ops ?_; (first | refine o_go (by first | exact .inl rfl | exact .inr ⟨_, _, _, rfl, rfl, rfl⟩) ?_ | refine o_nil ?_)) | (refine k_run ?_; (first | refine r_seq ?_ | refine r_region ?_ | refine r_skip ?_ | refine r_block ?_ | refine r_inBlock ?_ | refine r_if rfl (fun _ => ?_) (fun _ => ?_) | refine r_exit rfl ?_)))
      all_goals try (exfalso; omega)
      all_goals exact r_ret Tryd.func15 _ (res_one rfl rfl) ⟨rfl, rfl⟩
    · rw [decide_eq_false h4, Bool.false_or] at i2
      repeat' (first | (refine k_op1 ?_; (first | refine o_sv rfl (by decide) ?_ | (refine k_load ?_; (first | refine o_val (v_loadea rfl rfl) rfl rfl (by decide) ?_ | refine o_val (v_loadp rfl rfl rfl rfl) rfl rfl (by decide) ?_)) | (refine k_index ?_; (refine o_val (v_index (ys := l.map rxc) rfl (by omega) (idx_rx hk) rfl) rfl rfl (by decide) ?_)) | (refine k_bin ?_; (refine o_val (v_add (wi64 (by omega) (by omega))) rfl rfl (by decide) ?_)) | (refine k_call ?_; (refine o_fn hc rfl (by decide) ?_)) | (refine k_store ?_; (refine o_store0 rfl rfl rfl rfl rfl rfl ?_)) | (refine k_alloc ?_; (refine o_does (d_alloc rfl rfl (by decide)) ?_)))) | (refine k_ops ?_; (first | refine o_go (by first | exact .inl rfl | exact .inr ⟨_, _, _, rfl, rfl, rfl⟩) ?_ | refine o_nil ?_)) | (refine k_run ?_; (first | refine r_seq ?_ | refine r_region ?_ | refine r_skip ?_ | refine r_block ?_ | refine r_inBlock ?_ | refine r_if rfl (fun _ => ?_) (fun _ => ?_) | refine r_exit rfl ?_)))
      all_goals try (exfalso; omega)
      all_goals exact r_less (ihl (i + 1) ⟨by omega, i2⟩ (by omega)) rfl rfl
  · obtain rfl : i = l.length := by omega
    rw [List.drop_length] at i2
    rw [← i2]
    repeat' (first | (refine k_op1 ?_; (refine o_sv rfl (by decide) ?_)) | (refine k_ops ?_; (first | refine o_go (by first | exact .inl rfl | exact .inr ⟨_, _, _, rfl, rfl, rfl⟩) ?_ | refine o_nil ?_)) | (refine k_run ?_; (first | refine r_seq ?_ | refine r_region ?_ | refine r_skip ?_ | refine r_block ?_ | refine r_if rfl (fun _ => ?_) (fun _ => ?_) | refine r_exit rfl ?_)))
    all_goals try (exfalso; omega)
    all_goals exact r_ret Tryd.func15 _ (res_one rfl rfl) ⟨rfl, rfl⟩
end Go.Proofs.YtjmbjgecfpggdaaDoor
