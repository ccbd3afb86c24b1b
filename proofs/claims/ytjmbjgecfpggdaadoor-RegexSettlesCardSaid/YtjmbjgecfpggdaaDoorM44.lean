/- A part of the proof: G44. -/
import Derived.Test.YtjmbjgecfpggdaaDoorM43
import Derived.Test.YtjmbjgecfpggdaaDoorRp
set_option linter.all false
set_option linter.unusedVariables false
set_option linter.unusedSimpArgs false
namespace Go.Proofs.YtjmbjgecfpggdaaDoor
open Go.Ab Go.Rx
set_option maxHeartbeats 20000000
set_option maxRecDepth 100000
set_option linter.unusedVariables false
set_option linter.unusedSimpArgs false
set_option linter.unusedSectionVars false
attribute [local irreducible] Run Ops Op1 Does Val Tr PureF Eff1 NF Rel EffV EffM EffN
theorem textless_s (l : List Rg) (hl : l.length ≤ 9223372036854775807) : PureF Tryd.prog 50 [.d (rgs l)] (B (l.any txl)) := by
  refine pure_of fun H => ?_
  refine spec_of Tryd.func50 (by kernel_rfl) rfl (by simp) ?_
  dsimp only [Tryd.f50]
  repeat' (first | (refine k_op1 ?_; (first | refine o_sv rfl (by decide) ?_ | (refine k_blt ?_; (refine o_val (v_lenm rfl) rfl rfl (by decide) ?_)))) | (refine k_ops ?_; (first | refine o_go (by first | exact .inl rfl | exact .inr ⟨_, _, _, rfl, rfl, rfl⟩) ?_ | refine o_nil ?_)) | (refine k_run ?_; (first | refine r_seq ?_ | refine r_region ?_ | refine r_block ?_)))
  all_goals try (exfalso; omega)
  refine r_loop ?_
  refine r_less (r_inv (fun q : Nat => ⟨30, [(5, .d (rgs l)), (6, I .i64 l.length), (7, I .i64 (q : Nat))], [], H⟩) (fun q => q ≤ l.length ∧ (l.drop q).any txl = l.any txl) (fun q => l.length - q) ?_ 0 ⟨Nat.zero_le _, rfl⟩) rfl rfl
  rintro i ⟨i1, i2⟩ ih
  by_cases hlt : i < l.length
  · obtain ⟨r, hr⟩ : ∃ r, l[i]? = some r := ⟨_, List.getElem?_eq_getElem hlt⟩
    rw [drop_cons hr, List.any_cons] at i2
    by_cases ht : r.1 ≤ 57343 ∧ 55296 ≤ r.2 ∧ (55295 < r.1 ∨ r.2 < 57344)
    · rw [show txl r = true by simp [txl]; omega, Bool.true_or] at i2
      rw [← i2]
      repeat' (first | (refine k_op1 ?_; (first | refine o_sv rfl (by decide) ?_ | (refine k_load ?_; (first | refine o_val (v_load rfl rfl rfl rfl) rfl rfl (by decide) ?_ | refine o_val (v_loadea rfl rfl) rfl rfl (by decide) ?_)) | (refine k_field ?_; (refine o_val (v_field rfl rfl) rfl rfl (by decide) ?_)) | (refine k_index ?_; (refine o_val (v_index (ys := l.map rgc) rfl (by omega) (idx hr) rfl) rfl rfl (by decide) ?_)) | (refine k_bin ?_; (refine o_val (v_add (wi64 (by omega) (by omega))) rfl rfl (by decide) ?_)) | (refine k_store ?_; (refine o_store0 rfl rfl rfl rfl rfl rfl ?_)) | (refine k_alloc ?_; (refine o_does (d_alloc rfl rfl (by decide)) ?_)))) | (refine k_ops ?_; (first | refine o_go (by first | exact .inl rfl | exact .inr ⟨_, _, _, rfl, rfl, rfl⟩) ?_ | refine o_nil ?_ | refine o_no rfl rfl (by decide) ?_ | refine o_no2 rfl rfl (by decide) ?_ | refine o_casep rfl rfl (fun _ => ?_) (fun _ => ?_))) | (refine k_run ?_; (first | refine r_seq ?_ | refine r_region ?_ | refine r_true rfl ?_ | refine r_false rfl ?_ | refine r_skip ?_ | refine r_block ?_ | refine r_inBlock ?_ | refine r_if rfl (fun _ => ?_) (fun _ => ?_) | refine r_exit rfl ?_)))
      all_goals try (exfalso; omega)
      all_goals exact r_ret Tryd.func50 _ (res_one rfl rfl) ⟨rfl, rfl⟩
    · rw [show txl r = false by
        rw [txl, ← Bool.decide_and, ← Bool.decide_or, ← Bool.decide_and, decide_eq_false_iff_not]; omega, Bool.false_or] at i2
      repeat' (first | (refine k_op1 ?_; (first | refine o_sv rfl (by decide) ?_ | (refine k_load ?_; (first | refine o_val (v_load rfl rfl rfl rfl) rfl rfl (by decide) ?_ | refine o_val (v_loadea rfl rfl) rfl rfl (by decide) ?_)) | (refine k_field ?_; (refine o_val (v_field rfl rfl) rfl rfl (by decide) ?_)) | (refine k_index ?_; (refine o_val (v_index (ys := l.map rgc) rfl (by omega) (idx hr) rfl) rfl rfl (by decide) ?_)) | (refine k_bin ?_; (refine o_val (v_add (wi64 (by omega) (by omega))) rfl rfl (by decide) ?_)) | (refine k_store ?_; (refine o_store0 rfl rfl rfl rfl rfl rfl ?_)) | (refine k_alloc ?_; (refine o_does (d_alloc rfl rfl (by decide)) ?_)))) | (refine k_ops ?_; (first | refine o_go (by first | exact .inl rfl | exact .inr ⟨_, _, _, rfl, rfl, rfl⟩) ?_ | refine o_nil ?_ | refine o_no rfl rfl (by decide) ?_ | refine o_no2 rfl rfl (by decide) ?_ | refine o_casep rfl rfl (fun _ => ?_) (fun _ => ?_))) | (refine k_run ?_; (first | refine r_seq ?_ | refine r_region ?_ | refine r_true rfl ?_ | refine r_false rfl ?_ | refine r_skip ?_ | refine r_block ?_ | refine r_inBlock ?_ | refine r_if rfl (fun _ => ?_) (fun _ => ?_) | refine r_exit rfl ?_)))
      all_goals try (exfalso; omega)
      all_goals exact r_less (ih (i + 1) ⟨by omega, i2⟩ (by omega)) rfl rfl
  · obtain rfl : i = l.length := by omega
    rw [List.drop_length] at i2
    rw [← i2]
    repeat' (first | (refine k_op1 ?_; (refine o_sv rfl (by decide) ?_)) | (refine k_ops ?_; (first | refine o_go (by first | exact .inl rfl | exact .inr ⟨_, _, _, rfl, rfl, rfl⟩) ?_ | refine o_nil ?_)) | (refine k_run ?_; (first | refine r_seq ?_ | refine r_region ?_ | refine r_skip ?_ | refine r_block ?_ | refine r_if rfl (fun _ => ?_) (fun _ => ?_) | refine r_exit rfl ?_)))
    all_goals try (exfalso; omega)
    all_goals exact r_ret Tryd.func50 _ (res_one rfl rfl) ⟨rfl, rfl⟩
theorem set_s (l : List Rg) (h : okRs l = true) : PureF Tryd.prog 49 [.d (rgs l)] (S (txE (fset l))) := by
  refine pure_of fun H => ?_
  have hm := okRs_mem h
  have hlen := okRs_len h
  have hfs := (txE_size (fset l)).2
  have hfl := fset_le l
  have h0 : 0 < l.length := by rw [okRs, Bool.and_eq_true, decide_eq_true_eq] at h; exact h.2
  clear h
  obtain ⟨r, l', rfl⟩ : ∃ r l', l = r :: l' := by
    cases l with
    | nil => simp at h0
    | cons r l' => exact ⟨r, l', rfl⟩
  have hr0 : (r :: l')[((0 : Int)).toNat]? = some r := rfl
  have hr := hm r (by simp)
  refine spec_of Tryd.func49 (by kernel_rfl) rfl (by simp) ?_
  dsimp only [Tryd.f49]
  rw [fset]
  by_cases c1 : r.1 = 0 ∧ r.2 = 1114111
  · rw [if_pos c1]
    repeat' (first | (refine k_op1 ?_; (first | refine o_sv rfl (by decide) ?_ | (refine k_load ?_; (refine o_val (v_loade rfl rfl rfl) rfl rfl (by decide) ?_)) | (refine k_field ?_; (refine o_val (v_fielde rfl rfl) rfl rfl (by decide) ?_)) | (refine k_index ?_; (refine o_val (v_index (ys := (r :: l').map rgc) rfl (by omega) (idxi hr0) rfl) rfl rfl (by decide) ?_)) | (refine k_blt ?_; (refine o_val (v_lenm rfl) rfl rfl (by decide) ?_)))) | (refine k_ops ?_; (first | refine o_go (by first | exact .inl rfl | exact .inr ⟨_, _, _, rfl, rfl, rfl⟩) ?_ | refine o_nil ?_ | refine o_no rfl rfl (by decide) ?_ | refine o_casep rfl rfl (fun _ => ?_) (fun _ => ?_))) | (refine k_run ?_; (first | refine r_seq ?_ | refine r_region ?_ | refine r_false rfl ?_ | refine r_skip ?_ | refine r_block ?_ | refine r_tr ?_ | refine r_inBlock ?_ | refine r_if rfl (fun _ => ?_) (fun _ => ?_))) | (refine k_tr ?_; (first | (refine kt_end ?_; refine t_end mix (by kernel_rfl) ?_) | refine t_pass rfl rfl (by decide) ?_ | refine t_sv rfl (by first | exact rfl | exact ⟨_, rfl, rfl, rfl⟩) (by decide) ?_ | (refine kt_load ?_; (refine t_val (v_loade rfl rfl rfl) (by first | exact rfl | exact ⟨_, rfl, rfl, rfl⟩) rfl rfl (by decide) ?_)) | (refine kt_field ?_; (refine t_val (v_fielde rfl rfl) (by first | exact rfl | exact ⟨_, rfl, rfl, rfl⟩) rfl rfl (by decide) ?_)) | (refine kt_index ?_; (refine t_val (v_index (ys := (r :: l').map rgc) rfl (by omega) (idxi hr0) rfl) (by first | exact rfl | exact ⟨_, rfl, rfl, rfl⟩) rfl rfl (by decide) ?_)) | (refine kt_blt ?_; (refine t_val (v_lenm rfl) (by first | exact rfl | exact ⟨_, rfl, rfl, rfl⟩) rfl rfl (by decide) ?_)) | (refine t_either rfl rfl (fun hg => ?_) (fun hg => ?_) <;> simp only [hg] <;> (try simp only [decide_eq_true_eq, decide_eq_false_iff_not, Bool.not_eq_true', Bool.not_eq_false'] at hg)))))
    all_goals try (exfalso; omega)
    all_goals exact r_ret Tryd.func49 _ (res_one rfl rfl) ⟨rfl, rfl⟩
  rw [if_neg c1]
  by_cases c2 : l'.length = 0 ∧ r.1 = r.2
  · obtain rfl : l' = [] := List.eq_nil_of_length_eq_zero c2.1
    have hq := quoted_s sp_A r.1 hr.1 (by omega)
    rw [if_pos c2]
    repeat' (first | (refine k_op1 ?_; (first | refine o_sv rfl (by decide) ?_ | (refine k_load ?_; (refine o_val (v_loade rfl rfl rfl) rfl rfl (by decide) ?_)) | (refine k_field ?_; (refine o_val (v_fielde rfl rfl) rfl rfl (by decide) ?_)) | (refine k_index ?_; (refine o_val (v_index (ys := [r].map rgc) rfl (by omega) (idxi hr0) rfl) rfl rfl (by decide) ?_)) | (refine k_blt ?_; (refine o_val (v_lenm rfl) rfl rfl (by decide) ?_)) | (refine k_call ?_; (refine o_fn hq rfl (by decide) ?_)))) | (refine k_ops ?_; (first | refine o_go (by first | exact .inl rfl | exact .inr ⟨_, _, _, rfl, rfl, rfl⟩) ?_ | refine o_nil ?_ | refine o_no rfl rfl (by decide) ?_ | refine o_casep rfl rfl (fun _ => ?_) (fun _ => ?_))) | (refine k_run ?_; (first | refine r_seq ?_ | refine r_region ?_ | refine r_false rfl ?_ | refine r_skip ?_ | refine r_block ?_ | refine r_tr ?_ | refine r_inBlock ?_ | refine r_if rfl (fun _ => ?_) (fun _ => ?_))) | (refine k_tr ?_; (first | (refine kt_end ?_; refine t_end mix (by kernel_rfl) ?_) | refine t_sv rfl (by first | exact rfl | exact ⟨_, rfl, rfl, rfl⟩) (by decide) ?_ | (refine kt_load ?_; (refine t_val (v_loade rfl rfl rfl) (by first | exact rfl | exact ⟨_, rfl, rfl, rfl⟩) rfl rfl (by decide) ?_)) | (refine kt_field ?_; (refine t_val (v_fielde rfl rfl) (by first | exact rfl | exact ⟨_, rfl, rfl, rfl⟩) rfl rfl (by decide) ?_)) | (refine kt_index ?_; (refine t_val (v_index (ys := [r].map rgc) rfl (by omega) (idxi hr0) rfl) (by first | exact rfl | exact ⟨_, rfl, rfl, rfl⟩) rfl rfl (by decide) ?_)) | (refine kt_blt ?_; (refine t_val (v_lenm rfl) (by first | exact rfl | exact ⟨_, rfl, rfl, rfl⟩) rfl rfl (by decide) ?_)))))
    all_goals try (exfalso; omega)
    all_goals exact r_ret Tryd.func49 _ (res_one rfl rfl) ⟨rfl, rfl⟩
  rw [if_neg c2]
  have hq1 : (r :: l').length = l'.length + 1 := rfl
  have hfs' : ([91] ++ (r :: l').flatMap fRng ++ [93] : List Int).length ≤ 3000000 := by
    have := flat_le (r :: l')
    rw [List.length_append, List.length_append]; simp only [List.length_cons, List.length_nil] at *; omega
  clear hfs hfl hr hq1
  have hdr : (r :: l').drop 0 = r :: l' := rfl
  generalize hL : (r :: l') = L at *
  have hLl : 1 < L.length ∨ r.1 ≠ r.2 := by
    rw [← hL, List.length_cons]; omega
  rw [show txE ([91] ++ L.flatMap fRng ++ [93]) = txE ([91] ++ L.flatMap fRng) ++ (⟨#[93]⟩ : ByteArray) by rw [txE_app]; rfl]
  have sa : ∀ a b : ByteArray, (a ++ b).size = a.size + b.size := fun a b => by simp
  have z1 : (⟨#[45]⟩ : ByteArray).size = 1 := rfl
  have z2 : (⟨#[93]⟩ : ByteArray).size = 1 := rfl
  repeat' (first | (refine k_op1 ?_; (first | refine o_sv rfl (by decide) ?_ | (refine k_load ?_; (refine o_val (v_loade rfl rfl rfl) rfl rfl (by decide) ?_)) | (refine k_field ?_; (refine o_val (v_fielde rfl rfl) rfl rfl (by decide) ?_)) | (refine k_index ?_; (refine o_val (v_index (ys := L.map rgc) rfl (by omega) (idxi hr0) rfl) rfl rfl (by decide) ?_)) | (refine k_blt ?_; (refine o_val (v_lenm rfl) rfl rfl (by decide) ?_)))) | (refine k_ops ?_; (first | refine o_go (by first | exact .inl rfl | exact .inr ⟨_, _, _, rfl, rfl, rfl⟩) ?_ | refine o_nil ?_ | refine o_no rfl rfl (by decide) ?_ | refine o_casep rfl rfl (fun _ => ?_) (fun _ => ?_))) | (refine k_run ?_; (first | refine r_seq ?_ | refine r_region ?_ | refine r_false rfl ?_ | refine r_skip ?_ | refine r_block ?_ | refine r_tr ?_ | refine r_inBlock ?_ | refine r_if rfl (fun _ => ?_) (fun _ => ?_))) | (refine k_tr ?_; (first | (refine kt_end ?_; refine t_end mix (by kernel_rfl) ?_) | refine t_pass rfl rfl (by decide) ?_ | refine t_sv rfl (by first | exact rfl | exact ⟨_, rfl, rfl, rfl⟩) (by decide) ?_ | (refine kt_load ?_; (refine t_val (v_loade rfl rfl rfl) (by first | exact rfl | exact ⟨_, rfl, rfl, rfl⟩) rfl rfl (by decide) ?_)) | (refine kt_field ?_; (refine t_val (v_fielde rfl rfl) (by first | exact rfl | exact ⟨_, rfl, rfl, rfl⟩) rfl rfl (by decide) ?_)) | (refine kt_index ?_; (refine t_val (v_index (ys := L.map rgc) rfl (by omega) (idxi hr0) rfl) (by first | exact rfl | exact ⟨_, rfl, rfl, rfl⟩) rfl rfl (by decide) ?_)) | (refine kt_blt ?_; (refine t_val (v_lenm rfl) (by first | exact rfl | exact ⟨_, rfl, rfl, rfl⟩) rfl rfl (by decide) ?_)) | (refine t_either rfl rfl (fun hg => ?_) (fun hg => ?_) <;> simp only [hg] <;> (try simp only [decide_eq_true_eq, decide_eq_false_iff_not, Bool.not_eq_true', Bool.not_eq_false'] at hg)))))
  all_goals try (exfalso; omega)
  all_goals (
    refine r_loop ?_
    refine r_less (r_inv (fun q : Nat => ⟨71, [(3, S (txE ([91] ++ (L.take q).flatMap fRng))), (39, .d (rgs L)), (40, I .i64 L.length), (41, I .i64 (q : Nat))], [], H⟩) (fun q => q ≤ L.length) (fun q => L.length - q) ?_ 0 (Nat.zero_le _)) rfl rfl
    intro i i1 ih
    have hsz := (txE_size ([91] ++ (L.take i).flatMap fRng)).2
    have hsz2 : ([91] ++ (L.take i).flatMap fRng : List Int).length ≤ 3000000 := by
      have := flat_le (L.take i)
      rw [List.length_append, List.length_cons, List.length_nil]
      have := List.length_take_le i L
      omega
    by_cases hlt : i < L.length
    · obtain ⟨x, hx⟩ : ∃ x, L[i]? = some x := ⟨_, List.getElem?_eq_getElem hlt⟩
      have hxm := hm x (List.mem_of_getElem? hx)
      have c1 := quoted_s sp_C x.1 (by omega) (by omega)
      have c2 := quoted_s sp_C x.2 (by omega) (by omega)
      have z3 := (txE_size (quo spC x.1)).2
      have z4 := (txE_size (quo spC x.2)).2
      have z5 := quo_len spC x.1
      have z6 := quo_len spC x.2
      have ih' := ih (i + 1) (by omega) (by omega)
      have hst : txE ([91] ++ (L.take (i + 1)).flatMap fRng) = txE ([91] ++ (L.take i).flatMap fRng) ++ txE (fRng x) := by
        rw [take_succ' hx, List.flatMap_append, List.flatMap_cons, List.flatMap_nil, List.append_nil, ← List.append_assoc, txE_app]
      by_cases d1 : x.1 + 1 < x.2
      · rw [hst, show txE (fRng x) = (txE (quo spC x.1) ++ ⟨#[45]⟩) ++ txE (quo spC x.2) by rw [fRng, if_pos d1, if_pos (by omega), txE_app, txE_app]; rfl, ← ByteArray.append_assoc (a := txE ([91] ++ (L.take i).flatMap fRng)), ← ByteArray.append_assoc (a := txE ([91] ++ (L.take i).flatMap fRng))] at ih'
        repeat' (first | (refine k_op1 ?_; (first | refine o_sv rfl (by decide) ?_ | (refine k_load ?_; (first | refine o_val (v_load rfl rfl rfl rfl) rfl rfl (by decide) ?_ | refine o_val (v_loadea rfl rfl) rfl rfl (by decide) ?_)) | (refine k_field ?_; (refine o_val (v_field rfl rfl) rfl rfl (by decide) ?_)) | (refine k_index ?_; (refine o_val (v_index (ys := L.map rgc) rfl (by omega) (idx hx) rfl) rfl rfl (by decide) ?_)) | (refine k_bin ?_; (first | refine o_val (v_add (wi32 (by omega) (by omega))) rfl rfl (by decide) ?_ | refine o_val (v_add (wi64 (by omega) (by omega))) rfl rfl (by decide) ?_)) | (refine k_call ?_; (first | refine o_fn c1 rfl (by decide) ?_ | refine o_fn c2 rfl (by decide) ?_)) | (refine k_store ?_; (refine o_store0 rfl rfl rfl rfl rfl rfl ?_)) | (refine k_alloc ?_; (refine o_does (d_alloc rfl rfl (by decide)) ?_)) | refine o_val (v_sadd (by (try simp only [sa]); omega)) rfl rfl (by decide) ?_)) | (refine k_ops ?_; (first | refine o_go (by first | exact .inl rfl | exact .inr ⟨_, _, _, rfl, rfl, rfl⟩) ?_ | refine o_nil ?_)) | (refine k_run ?_; (first | refine r_seq ?_ | refine r_region ?_ | refine r_skip ?_ | refine r_block ?_ | refine r_inBlock ?_ | refine r_if rfl (fun _ => ?_) (fun _ => ?_) | refine r_exit rfl ?_)))
        all_goals try (exfalso; omega)
        all_goals exact r_less ih' rfl rfl
      · by_cases d2 : x.1 < x.2
        · rw [hst, show txE (fRng x) = txE (quo spC x.1) ++ txE (quo spC x.2) by rw [fRng, if_neg d1, if_pos d2, List.append_nil, txE_app], ← ByteArray.append_assoc (a := txE ([91] ++ (L.take i).flatMap fRng))] at ih'
          repeat' (first | (refine k_op1 ?_; (first | refine o_sv rfl (by decide) ?_ | (refine k_load ?_; (first | refine o_val (v_load rfl rfl rfl rfl) rfl rfl (by decide) ?_ | refine o_val (v_loadea rfl rfl) rfl rfl (by decide) ?_)) | (refine k_field ?_; (refine o_val (v_field rfl rfl) rfl rfl (by decide) ?_)) | (refine k_index ?_; (refine o_val (v_index (ys := L.map rgc) rfl (by omega) (idx hx) rfl) rfl rfl (by decide) ?_)) | (refine k_bin ?_; (first | refine o_val (v_add (wi32 (by omega) (by omega))) rfl rfl (by decide) ?_ | refine o_val (v_add (wi64 (by omega) (by omega))) rfl rfl (by decide) ?_)) | (refine k_call ?_; (first | refine o_fn c1 rfl (by decide) ?_ | refine o_fn c2 rfl (by decide) ?_)) | (refine k_store ?_; (refine o_store0 rfl rfl rfl rfl rfl rfl ?_)) | (refine k_alloc ?_; (refine o_does (d_alloc rfl rfl (by decide)) ?_)) | refine o_val (v_sadd (by (try simp only [sa]); omega)) rfl rfl (by decide) ?_)) | (refine k_ops ?_; (first | refine o_go (by first | exact .inl rfl | exact .inr ⟨_, _, _, rfl, rfl, rfl⟩) ?_ | refine o_nil ?_)) | (refine k_run ?_; (first | refine r_seq ?_ | refine r_region ?_ | refine r_skip ?_ | refine r_block ?_ | refine r_inBlock ?_ | refine r_if rfl (fun _ => ?_) (fun _ => ?_) | refine r_exit rfl ?_)))
          all_goals try (exfalso; omega)
          all_goals exact r_less ih' rfl rfl
        · rw [hst, show txE (fRng x) = txE (quo spC x.1) by rw [fRng, if_neg d1, if_neg d2, List.append_nil, List.append_nil]] at ih'
          repeat' (first | (refine k_op1 ?_; (first | refine o_sv rfl (by decide) ?_ | (refine k_load ?_; (first | refine o_val (v_load rfl rfl rfl rfl) rfl rfl (by decide) ?_ | refine o_val (v_loadea rfl rfl) rfl rfl (by decide) ?_)) | (refine k_field ?_; (refine o_val (v_field rfl rfl) rfl rfl (by decide) ?_)) | (refine k_index ?_; (refine o_val (v_index (ys := L.map rgc) rfl (by omega) (idx hx) rfl) rfl rfl (by decide) ?_)) | (refine k_bin ?_; (first | refine o_val (v_add (wi32 (by omega) (by omega))) rfl rfl (by decide) ?_ | refine o_val (v_add (wi64 (by omega) (by omega))) rfl rfl (by decide) ?_)) | (refine k_call ?_; (first | refine o_fn c1 rfl (by decide) ?_ | refine o_fn c2 rfl (by decide) ?_)) | (refine k_store ?_; (refine o_store0 rfl rfl rfl rfl rfl rfl ?_)) | (refine k_alloc ?_; (refine o_does (d_alloc rfl rfl (by decide)) ?_)) | refine o_val (v_sadd (by (try simp only [sa]); omega)) rfl rfl (by decide) ?_)) | (refine k_ops ?_; (first | refine o_go (by first | exact .inl rfl | exact .inr ⟨_, _, _, rfl, rfl, rfl⟩) ?_ | refine o_nil ?_)) | (refine k_run ?_; (first | refine r_seq ?_ | refine r_region ?_ | refine r_skip ?_ | refine r_block ?_ | refine r_inBlock ?_ | refine r_if rfl (fun _ => ?_) (fun _ => ?_) | refine r_exit rfl ?_)))
          all_goals try (exfalso; omega)
          all_goals exact r_less ih' rfl rfl
    · obtain rfl : i = L.length := by omega
      rw [List.take_length] at *
      repeat' (first | (refine k_op1 ?_; (first | refine o_sv rfl (by decide) ?_ | refine o_val (v_sadd (by (try simp only [sa]); omega)) rfl rfl (by decide) ?_)) | (refine k_ops ?_; (first | refine o_go (by first | exact .inl rfl | exact .inr ⟨_, _, _, rfl, rfl, rfl⟩) ?_ | refine o_nil ?_)) | (refine k_run ?_; (first | refine r_seq ?_ | refine r_region ?_ | refine r_skip ?_ | refine r_block ?_ | refine r_if rfl (fun _ => ?_) (fun _ => ?_) | refine r_exit rfl ?_)))
      all_goals try (exfalso; omega)
      all_goals exact r_ret Tryd.func49 _ (res_one rfl rfl) ⟨rfl, rfl⟩)
end Go.Proofs.YtjmbjgecfpggdaaDoor
