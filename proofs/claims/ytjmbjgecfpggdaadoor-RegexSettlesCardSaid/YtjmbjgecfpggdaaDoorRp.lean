/- A part of the proof: G1, G2, G3. -/
import Derived.Test.YtjmbjgecfpggdaaDoorRt
set_option linter.all false
set_option linter.unusedVariables false
set_option linter.unusedSimpArgs false
namespace Go.Proofs.YtjmbjgecfpggdaaDoor
open Go.Ab Go.Rx
set_option maxHeartbeats 20000000
set_option maxRecDepth 100000
set_option linter.unusedVariables false
set_option linter.unusedSimpArgs false
attribute [local irreducible] Run Ops Op1 Does Val Tr PureF Eff1 NF Rel EffV EffM
abbrev cnt (n : Int) : Blk := .box [I .i64 n]
theorem sm_le (e : Rx) (d n : Int) (hd : 1 ≤ d) (h0 : 0 ≤ n) (h1 : n ≤ 200) (h : (sm e d n).1 = true) : 0 ≤ (sm e d n).2 ∧ (sm e d n).2 ≤ 200 := by
  have := sm_spec.1 e d n hd h0 h1
  split at this
  · rw [this]; simp only; omega
  · rw [this] at h; cases h
theorem smL_drop {ks : List Rx} {i : Nat} {k : Rx} (h : ks[i]? = some k) (d n : Int) : smL (ks.drop i) d n = if (sm k d n).1 = true then smL (ks.drop (i + 1)) d (sm k d n).2 else (false, (sm k d n).2) := by
  rw [drop_cons h, smL]
/-- nodes are counted -/
theorem small_s (X : Nat) : ∀ (e : Rx), fit e → ∀ (d n : Int) (e0 : Nat), 1 ≤ d → d ≤ 100 → 0 ≤ n → n ≤ 200 → Eff1 Tryd.prog 24 [.d (Drx e), I .i64 d, .ptr (e0, X) 0] [((e0, X), cnt n)] [((e0, X), cnt (sm e d n).2)] (B (sm e d n).1) := by
  refine Rx.ind' fun op mn mx rs ks ih hfit d n e0 hd hd1 h0 h1 => ?_
  obtain ⟨hf1, hf2, hf3⟩ := hfit
  refine eff_of fun H hH => ?_
  have hX : H e0 X = some (cnt n) := hH ((e0, X), cnt n) (by simp)
  refine spec_of Tryd.func24 (by kernel_rfl) rfl (by simp) ?_
  rw [Drx, rxc_mk, sm]
  dsimp only [Tryd.f24]
  by_cases hb : smB d (n + 1) = true
  · rw [if_pos hb]
    have hb' := hb
    simp only [smB, Bool.or_eq_true, decide_eq_true_eq] at hb'
    repeat' (first | (refine k_op1 ?_; (first | refine o_sv rfl (by decide) ?_ | (refine k_load ?_; (first | refine o_val (v_load (b := cnt (n + 1)) rfl rfl rfl rfl) rfl (bkN (upd_get H (e0, X) (cnt (n + 1)))) (by decide) ?_ | refine o_val (v_load (b := cnt n) rfl rfl rfl rfl) rfl (bkN hX) (by decide) ?_ | refine o_val (v_load rfl rfl rfl rfl) rfl rfl (by decide) ?_)) | (refine k_field ?_; (refine o_val (v_field rfl rfl) rfl rfl (by decide) ?_)) | (refine k_bin ?_; (refine o_val (v_add (wi64 (by omega) (by omega))) rfl rfl (by decide) ?_)) | (refine k_blt ?_; (refine o_val (v_lenm rfl) rfl rfl (by decide) ?_)) | (refine k_store ?_; (refine o_storeu (raw := cnt n) (raw' := cnt (n + 1)) rfl hX rfl rfl rfl rfl rfl rfl ?_)) | (refine k_box ?_; (refine o_does (d_box rfl rfl rfl rfl rfl (by decide)) ?_)))) | (refine k_ops ?_; (first | refine o_go (by first | exact .inl rfl | exact .inr ⟨_, _, _, rfl, rfl, rfl⟩) ?_ | refine o_nil ?_ | refine o_no rfl rfl (by decide) ?_ | refine o_casep rfl rfl (fun _ => ?_) (fun _ => ?_))) | (refine k_run ?_; (first | refine r_seq ?_ | refine r_region ?_ | refine r_true rfl ?_ | refine r_skip ?_ | refine r_block ?_ | refine r_if rfl (fun _ => ?_) (fun _ => ?_))))
    all_goals try (exfalso; omega)
    all_goals exact r_ret Tryd.func24 _ (res_one rfl rfl) ⟨rfl, rfl⟩
  · rw [if_neg hb]
    have hb' := hb
    simp only [smB, Bool.or_eq_true, decide_eq_true_eq, not_or] at hb'
    repeat' (first | (refine k_op1 ?_; (first | refine o_sv rfl (by decide) ?_ | (refine k_load ?_; (first | refine o_val (v_load (b := cnt (n + 1)) rfl rfl rfl rfl) rfl (bkN (upd_get H (e0, X) (cnt (n + 1)))) (by decide) ?_ | refine o_val (v_load (b := cnt n) rfl rfl rfl rfl) rfl (bkN hX) (by decide) ?_ | refine o_val (v_load rfl rfl rfl rfl) rfl rfl (by decide) ?_)) | (refine k_field ?_; (refine o_val (v_field rfl rfl) rfl rfl (by decide) ?_)) | (refine k_bin ?_; (refine o_val (v_add (wi64 (by omega) (by omega))) rfl rfl (by decide) ?_)) | (refine k_blt ?_; (refine o_val (v_lenm rfl) rfl rfl (by decide) ?_)) | (refine k_store ?_; (refine o_storeu (raw := cnt n) (raw' := cnt (n + 1)) rfl hX rfl rfl rfl rfl rfl rfl ?_)) | (refine k_box ?_; (refine o_does (d_box rfl rfl rfl rfl rfl (by decide)) ?_)))) | (refine k_ops ?_; (first | refine o_go (by first | exact .inl rfl | exact .inr ⟨_, _, _, rfl, rfl, rfl⟩) ?_ | refine o_nil ?_ | refine o_no rfl rfl (by decide) ?_ | refine o_casep rfl rfl (fun _ => ?_) (fun _ => ?_))) | (refine k_run ?_; (first | refine r_seq ?_ | refine r_region ?_ | refine r_true rfl ?_ | refine r_skip ?_ | refine r_block ?_ | refine r_if rfl (fun _ => ?_) (fun _ => ?_))))
    all_goals try (exfalso; omega)
    refine r_loop ?_
    refine r_less (r_inv (fun q : Nat × Int => ⟨36, [(1, I .i64 d), (2, .ptr (e0 + 1, X) 0), (23, .d (.slice (ks.map rxc))), (24, I .i64 ks.length), (25, I .i64 (q.1 : Nat))], [], upd H (e0, X) (cnt q.2)⟩) (fun q => q.1 ≤ ks.length ∧ 0 ≤ q.2 ∧ q.2 ≤ 200 ∧ smL (ks.drop q.1) (d + 1) q.2 = smL ks (d + 1) (n + 1)) (fun q => ks.length - q.1) ?_ (0, n + 1) ⟨Nat.zero_le _, by simp only; omega, by simp only; omega, rfl⟩) rfl rfl
    rintro ⟨i, m⟩ ⟨i1, i2, i3, i4⟩ ihl
    simp only at i1 i2 i3 i4 ihl ⊢
    by_cases hlt : i < ks.length
    · obtain ⟨k, hk⟩ : ∃ k, ks[i]? = some k := ⟨_, List.getElem?_eq_getElem hlt⟩
      rw [smL_drop hk] at i4
      have c := ih k (List.mem_of_getElem? hk) (fitL_mem hf3 k (List.mem_of_getElem? hk)) (d + 1) m (e0 + 1) (by omega) (by omega) i2 i3
      have hle := sm_le k (d + 1) m (by omega) i2 i3
      generalize sm k (d + 1) m = r at c i4 hle
      obtain ⟨rb, rn⟩ := r
      simp only at c i4 hle
      obtain ⟨op', mn', mx', rs', ks'⟩ := k
      have hk' := idx_rx hk
      rw [Drx, rxc_mk] at c
      cases rb with
      | true =>
        obtain ⟨hle1, hle2⟩ := hle rfl
        rw [if_pos rfl] at i4
        repeat' (first | (refine k_op1 ?_; (first | refine o_sv rfl (by decide) ?_ | (refine k_load ?_; (first | refine o_val (v_loadea rfl rfl) rfl rfl (by decide) ?_ | refine o_val (v_loadp rfl rfl rfl rfl) rfl rfl (by decide) ?_)) | (refine k_index ?_; (refine o_val (v_index (ys := ks.map rxc) rfl (by omega) hk' rfl) rfl rfl (by decide) ?_)) | (refine k_bin ?_; (refine o_val (v_add (wi64 (by omega) (by omega))) rfl rfl (by decide) ?_)) | (refine k_call ?_; (refine o_effu c rfl (upd_get H (e0, X) (cnt m)) (by decide) ?_)) | (refine k_store ?_; (refine o_store0 rfl rfl rfl rfl rfl rfl ?_)) | (refine k_alloc ?_; (refine o_does (d_alloc rfl rfl (by decide)) ?_)))) | (refine k_ops ?_; (first | refine o_go (by first | exact .inl rfl | exact .inr ⟨_, _, _, rfl, rfl, rfl⟩) ?_ | refine o_nil ?_)) | (refine k_run ?_; (first | refine r_seq ?_ | refine r_region ?_ | refine r_false rfl ?_ | refine r_skip ?_ | refine r_block ?_ | refine r_inBlock ?_ | refine r_if rfl (fun _ => ?_) (fun _ => ?_) | refine r_exit rfl ?_)))
        all_goals try (exfalso; omega)
        rw [upd_upd']
        exact r_less (ihl (i + 1, rn) ⟨by simp only; omega, hle1, hle2, i4⟩ (by simp only; omega)) rfl rfl

      | false =>
        rw [if_neg (by simp)] at i4
        rw [← i4]
        repeat' (first | (refine k_op1 ?_; (first | refine o_sv rfl (by decide) ?_ | (refine k_load ?_; (first | refine o_val (v_loadea rfl rfl) rfl rfl (by decide) ?_ | refine o_val (v_loadp rfl rfl rfl rfl) rfl rfl (by decide) ?_)) | (refine k_index ?_; (refine o_val (v_index (ys := ks.map rxc) rfl (by omega) hk' rfl) rfl rfl (by decide) ?_)) | (refine k_bin ?_; (refine o_val (v_add (wi64 (by omega) (by omega))) rfl rfl (by decide) ?_)) | (refine k_call ?_; (refine o_effu c rfl (upd_get H (e0, X) (cnt m)) (by decide) ?_)) | (refine k_store ?_; (refine o_store0 rfl rfl rfl rfl rfl rfl ?_)) | (refine k_alloc ?_; (refine o_does (d_alloc rfl rfl (by decide)) ?_)))) | (refine k_ops ?_; (first | refine o_go (by first | exact .inl rfl | exact .inr ⟨_, _, _, rfl, rfl, rfl⟩) ?_ | refine o_nil ?_)) | (refine k_run ?_; (first | refine r_seq ?_ | refine r_region ?_ | refine r_true rfl ?_ | refine r_skip ?_ | refine r_block ?_ | refine r_if rfl (fun _ => ?_) (fun _ => ?_) | refine r_exit rfl ?_)))
        all_goals try (exfalso; omega)
        refine r_ret Tryd.func24 _ (res_one rfl rfl) ⟨rfl, ?_⟩
        exact upd_upd' _ _ _ _
    · obtain rfl : i = ks.length := by omega
      rw [List.drop_length, smL] at i4
      rw [← i4]
      repeat' (first | (refine k_op1 ?_; (refine o_sv rfl (by decide) ?_)) | (refine k_ops ?_; (first | refine o_go (by first | exact .inl rfl | exact .inr ⟨_, _, _, rfl, rfl, rfl⟩) ?_ | refine o_nil ?_)) | (refine k_run ?_; (first | refine r_seq ?_ | refine r_region ?_ | refine r_skip ?_ | refine r_block ?_ | refine r_if rfl (fun _ => ?_) (fun _ => ?_) | refine r_exit rfl ?_)))
      all_goals try (exfalso; omega)
      exact r_ret Tryd.func24 _ (res_one rfl rfl) ⟨rfl, rfl⟩
end Go.Proofs.YtjmbjgecfpggdaaDoor
namespace Go.Proofs.YtjmbjgecfpggdaaDoor
open Go.Ab Go.Rx
set_option maxHeartbeats 20000000
set_option maxRecDepth 100000
set_option linter.unusedVariables false
set_option linter.unusedSimpArgs false
attribute [local irreducible] Run Ops Op1 Does Val Tr PureF Eff1 NF Rel EffV EffM
theorem setOK_drop {l : List Rg} {i : Nat} {r : Rg} (h : l[i]? = some r) (a : Int) : setOK a (l.drop i) = (decide (a ≤ r.1) && decide (r.1 ≤ r.2) && decide (r.2 ≤ 1114111) && setOK (r.2 + 2) (l.drop (i + 1))) := by
  rw [drop_cons h, setOK]
def prv (l : List Rg) (i : Nat) (a : Int) : Prop := (i = 0 ∧ a = 0) ∨ (0 < i ∧ ∃ p, l[i - 1]? = some p ∧ a = p.2 + 2 ∧ 0 ≤ p.2 ∧ p.2 ≤ 1114111)
theorem validSet_s (l : List Rg) (hl : l.length ≤ 9223372036854775807) : PureF Tryd.prog 53 [.d (rgs l)] (B (okRs l)) := by
  refine pure_of fun H => ?_
  refine spec_of Tryd.func53 (by kernel_rfl) rfl (by simp) ?_
  dsimp only [Tryd.f53]
  repeat' (first | (refine k_op1 ?_; (first | refine o_sv rfl (by decide) ?_ | (refine k_blt ?_; (refine o_val (v_lenm rfl) rfl rfl (by decide) ?_)))) | (refine k_ops ?_; (first | refine o_go (by first | exact .inl rfl | exact .inr ⟨_, _, _, rfl, rfl, rfl⟩) ?_ | refine o_nil ?_)) | (refine k_run ?_; (first | refine r_seq ?_ | refine r_region ?_ | refine r_block ?_)))
  all_goals try (exfalso; omega)
  refine r_loop ?_
  refine r_less (r_inv (fun q : Nat × Int => ⟨47, [(0, .d (rgs l)), (5, .d (rgs l)), (6, I .i64 l.length), (7, I .i64 (q.1 : Nat))], [], H⟩) (fun q => q.1 ≤ l.length ∧ prv l q.1 q.2 ∧ setOK q.2 (l.drop q.1) = setOK 0 l) (fun q => l.length - q.1) ?_ (0, 0) ⟨Nat.zero_le _, .inl ⟨rfl, rfl⟩, rfl⟩) rfl rfl
  rintro ⟨i, a⟩ ⟨i1, i2, i3⟩ ih
  simp only at i1 i2 i3 ih ⊢
  by_cases hlt : i < l.length
  · obtain ⟨r, hr⟩ : ∃ r, l[i]? = some r := ⟨_, List.getElem?_eq_getElem hlt⟩
    rw [setOK_drop hr] at i3
    by_cases hgd : a ≤ r.1 ∧ r.1 ≤ r.2 ∧ r.2 ≤ 1114111
    · rw [decide_eq_true hgd.1, decide_eq_true hgd.2.1, decide_eq_true hgd.2.2, Bool.true_and, Bool.true_and, Bool.true_and] at i3
      rcases i2 with ⟨rfl, rfl⟩ | ⟨hi, p, hp, rfl, hp0, hp1⟩
      · repeat' (first | (refine k_op1 ?_; (first | refine o_sv rfl (by decide) ?_ | (refine k_load ?_; (refine o_val (v_loadea rfl rfl) rfl rfl (by decide) ?_)) | (refine k_index ?_; (refine o_val (v_index (ys := l.map rgc) rfl (by omega) (idx hr) rfl) rfl rfl (by decide) ?_)) | (refine k_bin ?_; (refine o_val (v_add (wi64 (by omega) (by omega))) rfl rfl (by decide) ?_)) | (refine k_blt ?_; (refine o_val (v_lenm rfl) rfl rfl (by decide) ?_)) | (refine k_store ?_; (refine o_store0 rfl rfl rfl rfl rfl rfl ?_)) | (refine k_alloc ?_; (refine o_does (d_alloc rfl rfl (by decide)) ?_)))) | (refine k_ops ?_; (first | refine o_go (by first | exact .inl rfl | exact .inr ⟨_, _, _, rfl, rfl, rfl⟩) ?_ | refine o_nil ?_)) | (refine k_run ?_; (first | refine r_seq ?_ | refine r_region ?_ | refine r_true rfl ?_ | refine r_false rfl ?_ | refine r_skip ?_ | refine r_block ?_ | refine r_tr ?_ | refine r_inBlock ?_ | refine r_if rfl (fun _ => ?_) (fun _ => ?_) | refine r_exit rfl ?_)) | (refine k_tr ?_; (first | (refine kt_end ?_; refine t_end mix (by kernel_rfl) ?_) | refine t_pass rfl rfl (by decide) ?_ | refine t_pass2 rfl rfl (by decide) ?_ | refine t_sv rfl (by first | exact rfl | exact ⟨_, rfl, rfl, rfl⟩) (by decide) ?_ | (refine kt_load ?_; (refine t_val (v_load rfl rfl rfl rfl) (by first | exact rfl | exact ⟨_, rfl, rfl, rfl⟩) rfl rfl (by decide) ?_)) | (refine kt_field ?_; (refine t_val (v_field rfl rfl) (by first | exact rfl | exact ⟨_, rfl, rfl, rfl⟩) rfl rfl (by decide) ?_)) | (refine t_either rfl rfl (fun hg => ?_) (fun hg => ?_) <;> simp only [hg] <;> (try simp only [decide_eq_true_eq, decide_eq_false_iff_not, Bool.not_eq_true', Bool.not_eq_false'] at hg)))))
        all_goals try (exfalso; omega)
        all_goals exact r_less (ih (1, r.2 + 2) ⟨by simp only; omega, .inr ⟨by simp, r, hr, rfl, by omega, hgd.2.2⟩, i3⟩ (by simp only; omega)) rfl rfl
      · have hp' : l[((i : Int) - 1).toNat]? = some p := by rw [← hp]; congr 1; omega
        repeat' (first | (refine k_op1 ?_; (first | refine o_sv rfl (by decide) ?_ | (refine k_load ?_; (refine o_val (v_loadea rfl rfl) rfl rfl (by decide) ?_)) | (refine k_index ?_; (refine o_val (v_index (ys := l.map rgc) rfl (by omega) (idx hr) rfl) rfl rfl (by decide) ?_)) | (refine k_bin ?_; (refine o_val (v_add (wi64 (by omega) (by omega))) rfl rfl (by decide) ?_)) | (refine k_blt ?_; (refine o_val (v_lenm rfl) rfl rfl (by decide) ?_)) | (refine k_store ?_; (refine o_store0 rfl rfl rfl rfl rfl rfl ?_)) | (refine k_alloc ?_; (refine o_does (d_alloc rfl rfl (by decide)) ?_)))) | (refine k_ops ?_; (first | refine o_go (by first | exact .inl rfl | exact .inr ⟨_, _, _, rfl, rfl, rfl⟩) ?_ | refine o_nil ?_)) | (refine k_run ?_; (first | refine r_seq ?_ | refine r_region ?_ | refine r_true rfl ?_ | refine r_false rfl ?_ | refine r_skip ?_ | refine r_block ?_ | refine r_tr ?_ | refine r_inBlock ?_ | refine r_if rfl (fun _ => ?_) (fun _ => ?_) | refine r_exit rfl ?_)) | (refine k_tr ?_; (first | (refine kt_end ?_; refine t_end mix (by kernel_rfl) ?_) | refine t_pass rfl rfl (by decide) ?_ | refine t_pass2 rfl rfl (by decide) ?_ | refine t_sv rfl (by first | exact rfl | exact ⟨_, rfl, rfl, rfl⟩) (by decide) ?_ | (refine kt_load ?_; (first | refine t_val (v_load rfl rfl rfl rfl) (by first | exact rfl | exact ⟨_, rfl, rfl, rfl⟩) rfl rfl (by decide) ?_ | refine t_val (v_loade rfl rfl rfl) (by first | exact rfl | exact ⟨_, rfl, rfl, rfl⟩) rfl rfl (by decide) ?_)) | (refine kt_field ?_; (first | refine t_val (v_field rfl rfl) (by first | exact rfl | exact ⟨_, rfl, rfl, rfl⟩) rfl rfl (by decide) ?_ | refine t_val (v_fielde rfl rfl) (by first | exact rfl | exact ⟨_, rfl, rfl, rfl⟩) rfl rfl (by decide) ?_)) | (refine kt_index ?_; (refine t_val (v_index (ys := l.map rgc) rfl (by omega) (idxi hp') rfl) (by first | exact rfl | exact ⟨_, rfl, rfl, rfl⟩) rfl rfl (by decide) ?_)) | (refine kt_bin ?_; (first | refine t_val (v_add (wi32 (by omega) (by omega))) (by first | exact rfl | exact ⟨_, rfl, rfl, rfl⟩) rfl rfl (by decide) ?_ | refine t_val (v_sub (wi64 (by omega) (by omega))) (by first | exact rfl | exact ⟨_, rfl, rfl, rfl⟩) rfl rfl (by decide) ?_)) | (refine t_either rfl rfl (fun hg => ?_) (fun hg => ?_) <;> simp only [hg] <;> (try simp only [decide_eq_true_eq, decide_eq_false_iff_not, Bool.not_eq_true', Bool.not_eq_false'] at hg)))))
        all_goals try (exfalso; omega)
        all_goals exact r_less (ih (i + 1, r.2 + 2) ⟨by simp only; omega, .inr ⟨by simp, r, by simpa using hr, rfl, by omega, hgd.2.2⟩, i3⟩ (by simp only; omega)) rfl rfl
    · have hb : okRs l = false := by
        rw [okRs, ← i3]
        have : (decide (a ≤ r.1) && decide (r.1 ≤ r.2) && decide (r.2 ≤ 1114111)) = false := by
          rw [← Bool.decide_and, ← Bool.decide_and, decide_eq_false_iff_not]
          exact fun h => hgd ⟨h.1.1, h.1.2, h.2⟩
        rw [this]; rfl
      rw [hb]
      rcases i2 with ⟨rfl, rfl⟩ | ⟨hi, p, hp, rfl, hp0, hp1⟩
      · repeat' (first | (refine k_op1 ?_; (first | refine o_sv rfl (by decide) ?_ | (refine k_load ?_; (refine o_val (v_loadea rfl rfl) rfl rfl (by decide) ?_)) | (refine k_index ?_; (refine o_val (v_index (ys := l.map rgc) rfl (by omega) (idx hr) rfl) rfl rfl (by decide) ?_)) | (refine k_bin ?_; (refine o_val (v_add (wi64 (by omega) (by omega))) rfl rfl (by decide) ?_)) | (refine k_blt ?_; (refine o_val (v_lenm rfl) rfl rfl (by decide) ?_)) | (refine k_store ?_; (refine o_store0 rfl rfl rfl rfl rfl rfl ?_)) | (refine k_alloc ?_; (refine o_does (d_alloc rfl rfl (by decide)) ?_)))) | (refine k_ops ?_; (first | refine o_go (by first | exact .inl rfl | exact .inr ⟨_, _, _, rfl, rfl, rfl⟩) ?_ | refine o_nil ?_)) | (refine k_run ?_; (first | refine r_seq ?_ | refine r_region ?_ | refine r_true rfl ?_ | refine r_false rfl ?_ | refine r_skip ?_ | refine r_block ?_ | refine r_tr ?_ | refine r_inBlock ?_ | refine r_if rfl (fun _ => ?_) (fun _ => ?_) | refine r_exit rfl ?_)) | (refine k_tr ?_; (first | (refine kt_end ?_; refine t_end mix (by kernel_rfl) ?_) | refine t_pass rfl rfl (by decide) ?_ | refine t_pass2 rfl rfl (by decide) ?_ | refine t_sv rfl (by first | exact rfl | exact ⟨_, rfl, rfl, rfl⟩) (by decide) ?_ | (refine kt_load ?_; (refine t_val (v_load rfl rfl rfl rfl) (by first | exact rfl | exact ⟨_, rfl, rfl, rfl⟩) rfl rfl (by decide) ?_)) | (refine kt_field ?_; (refine t_val (v_field rfl rfl) (by first | exact rfl | exact ⟨_, rfl, rfl, rfl⟩) rfl rfl (by decide) ?_)) | (refine t_either rfl rfl (fun hg => ?_) (fun hg => ?_) <;> simp only [hg] <;> (try simp only [decide_eq_true_eq, decide_eq_false_iff_not, Bool.not_eq_true', Bool.not_eq_false'] at hg)))))
        all_goals try (exfalso; omega)
        all_goals exact r_ret Tryd.func53 _ (res_one rfl rfl) ⟨rfl, rfl⟩
      · have hp' : l[((i : Int) - 1).toNat]? = some p := by rw [← hp]; congr 1; omega
        repeat' (first | (refine k_op1 ?_; (first | refine o_sv rfl (by decide) ?_ | (refine k_load ?_; (refine o_val (v_loadea rfl rfl) rfl rfl (by decide) ?_)) | (refine k_index ?_; (refine o_val (v_index (ys := l.map rgc) rfl (by omega) (idx hr) rfl) rfl rfl (by decide) ?_)) | (refine k_bin ?_; (refine o_val (v_add (wi64 (by omega) (by omega))) rfl rfl (by decide) ?_)) | (refine k_blt ?_; (refine o_val (v_lenm rfl) rfl rfl (by decide) ?_)) | (refine k_store ?_; (refine o_store0 rfl rfl rfl rfl rfl rfl ?_)) | (refine k_alloc ?_; (refine o_does (d_alloc rfl rfl (by decide)) ?_)))) | (refine k_ops ?_; (first | refine o_go (by first | exact .inl rfl | exact .inr ⟨_, _, _, rfl, rfl, rfl⟩) ?_ | refine o_nil ?_)) | (refine k_run ?_; (first | refine r_seq ?_ | refine r_region ?_ | refine r_true rfl ?_ | refine r_false rfl ?_ | refine r_skip ?_ | refine r_block ?_ | refine r_tr ?_ | refine r_inBlock ?_ | refine r_if rfl (fun _ => ?_) (fun _ => ?_) | refine r_exit rfl ?_)) | (refine k_tr ?_; (first | (refine kt_end ?_; refine t_end mix (by kernel_rfl) ?_) | refine t_pass rfl rfl (by decide) ?_ | refine t_pass2 rfl rfl (by decide) ?_ | refine t_sv rfl (by first | exact rfl | exact ⟨_, rfl, rfl, rfl⟩) (by decide) ?_ | (refine kt_load ?_; (first | refine t_val (v_load rfl rfl rfl rfl) (by first | exact rfl | exact ⟨_, rfl, rfl, rfl⟩) rfl rfl (by decide) ?_ | refine t_val (v_loade rfl rfl rfl) (by first | exact rfl | exact ⟨_, rfl, rfl, rfl⟩) rfl rfl (by decide) ?_)) | (refine kt_field ?_; (first | refine t_val (v_field rfl rfl) (by first | exact rfl | exact ⟨_, rfl, rfl, rfl⟩) rfl rfl (by decide) ?_ | refine t_val (v_fielde rfl rfl) (by first | exact rfl | exact ⟨_, rfl, rfl, rfl⟩) rfl rfl (by decide) ?_)) | (refine kt_index ?_; (refine t_val (v_index (ys := l.map rgc) rfl (by omega) (idxi hp') rfl) (by first | exact rfl | exact ⟨_, rfl, rfl, rfl⟩) rfl rfl (by decide) ?_)) | (refine kt_bin ?_; (first | refine t_val (v_add (wi32 (by omega) (by omega))) (by first | exact rfl | exact ⟨_, rfl, rfl, rfl⟩) rfl rfl (by decide) ?_ | refine t_val (v_sub (wi64 (by omega) (by omega))) (by first | exact rfl | exact ⟨_, rfl, rfl, rfl⟩) rfl rfl (by decide) ?_)) | (refine t_either rfl rfl (fun hg => ?_) (fun hg => ?_) <;> simp only [hg] <;> (try simp only [decide_eq_true_eq, decide_eq_false_iff_not, Bool.not_eq_true', Bool.not_eq_false'] at hg)))))
        all_goals try (exfalso; omega)
        all_goals exact r_ret Tryd.func53 _ (res_one rfl rfl) ⟨rfl, rfl⟩
  · obtain rfl : i = l.length := by omega
    rw [List.drop_length, setOK] at i3
    rw [okRs, ← i3, Bool.true_and]
    repeat' (first | (refine k_op1 ?_; (first | refine o_sv rfl (by decide) ?_ | (refine k_blt ?_; (refine o_val (v_lenm rfl) rfl rfl (by decide) ?_)))) | (refine k_ops ?_; (first | refine o_go (by first | exact .inl rfl | exact .inr ⟨_, _, _, rfl, rfl, rfl⟩) ?_ | refine o_nil ?_)) | (refine k_run ?_; (first | refine r_seq ?_ | refine r_region ?_ | refine r_skip ?_ | refine r_block ?_ | refine r_if rfl (fun _ => ?_) (fun _ => ?_) | refine r_exit rfl ?_)))
    all_goals try (exfalso; omega)
    refine r_ret Tryd.func53 _ (res_one rfl rfl) ⟨?_, rfl⟩
    congr 3; simp
theorem kidsOK_take {op : Int} {ks : List Rx} {i : Nat} {k : Rx} (h : ks[i]? = some k) : kidsOK op (ks.take (i + 1)) = (kidsOK op (ks.take i) && !decide (k.op = op)) := by
  rw [take_succ' h, kidsOK, List.all_append]; simp [kidsOK]
theorem kidsOK_bad {op : Int} {ks : List Rx} {i : Nat} {k : Rx} (h : ks[i]? = some k) (hk : k.op = op) : kidsOK op ks = false := by
  rw [Bool.eq_false_iff]
  intro h2
  have := List.all_eq_true.1 h2 k (List.mem_of_getElem? h)
  rw [hk] at this; simp at this
theorem vn_early {op mn mx : Int} {rs : List Rg} {ks : List Rx} (h : (op ≠ 1 ∧ 0 < rs.length) ∨ (op ≠ 4 ∧ (mn ≠ 0 ∨ mx ≠ 0))) : vn (.mk op mn mx rs ks) = false := by
  rw [Bool.eq_false_iff]
  intro h2
  rcases vn_cases h2 with ⟨rfl, rfl, rfl, rfl, _⟩ | ⟨rfl, rfl, rfl, rfl, _⟩ | ⟨rfl, rfl, rfl, rfl, _⟩ | ⟨rfl, rfl, _⟩ <;> simp at h <;> omega
theorem vn_kid {op mn mx : Int} {rs : List Rg} {ks : List Rx} {i : Nat} {k : Rx} (hk : ks[i]? = some k) (h : k.op = op) (h4 : op ≠ 4) : vn (.mk op mn mx rs ks) = false := by
  rw [Bool.eq_false_iff]
  intro h2
  rcases vn_cases h2 with ⟨rfl, rfl, rfl, rfl, _⟩ | ⟨rfl, rfl, rfl, rfl, _, h3⟩ | ⟨rfl, rfl, rfl, rfl, _, h3⟩ | ⟨rfl, _⟩
  · simp at hk
  · rw [kidsOK_bad hk h] at h3; cases h3
  · rw [kidsOK_bad hk h] at h3; cases h3
  · exact h4 rfl
theorem vn_late {op mn mx : Int} {rs : List Rg} {ks : List Rx} (he : ¬ ((op ≠ 1 ∧ 0 < rs.length) ∨ (op ≠ 4 ∧ (mn ≠ 0 ∨ mx ≠ 0)))) (h : op = 4 ∨ kidsOK op ks = true) : vn (.mk op mn mx rs ks) =
    if op = 1 then decide (ks.length = 0) && okRs rs else if op = 2 then !decide (ks.length = 1) else if op = 3 then decide (1 < ks.length)
    else if op = 4 then decide (ks.length = 1) && decide (0 ≤ mn) && decide (mn ≤ 16) && (decide (mx = -1) || (decide (mn ≤ mx) && decide (mx ≤ 16))) else false := by
  rw [vn]
  have hrs : op ≠ 1 → rs.length = 0 := by omega
  by_cases o4 : op = 4
  · subst o4; simp [hrs]
  have hk := h.resolve_left o4
  have hmn : mn = 0 := by omega
  have hmx : mx = 0 := by omega
  subst hmn hmx
  by_cases o1 : op = 1
  · subst o1; simp
  have := hrs o1
  simp [o1, o4, hk, this]
theorem validNode_s (op mn mx : Int) (rs : List Rg) (ks : List Rx) (hr : rs.length ≤ 9223372036854775807) (hk : ks.length ≤ 9223372036854775807) : PureF Tryd.prog 40 [.d (.agg (rx5 op mn mx rs ks))] (B (vn (.mk op mn mx rs ks))) := by
  refine pure_of fun H => ?_
  refine spec_of Tryd.func40 (by kernel_rfl) rfl (by simp) ?_
  dsimp only [Tryd.f40]
  by_cases he : (op ≠ 1 ∧ 0 < rs.length) ∨ (op ≠ 4 ∧ (mn ≠ 0 ∨ mx ≠ 0))
  · rw [vn_early he]
    repeat' (first | (refine k_op1 ?_; (first | refine o_sv rfl (by decide) ?_ | (refine k_load ?_; (refine o_val (v_load rfl rfl rfl rfl) rfl rfl (by decide) ?_)) | (refine k_field ?_; (refine o_val (v_field rfl rfl) rfl rfl (by decide) ?_)) | (refine k_blt ?_; (refine o_val (v_lenm rfl) rfl rfl (by decide) ?_)) | (refine k_box ?_; (refine o_does (d_box rfl rfl rfl rfl rfl (by decide)) ?_)))) | (refine k_ops ?_; (first | refine o_go (by first | exact .inl rfl | exact .inr ⟨_, _, _, rfl, rfl, rfl⟩) ?_ | refine o_nil ?_ | refine o_no rfl rfl (by decide) ?_ | refine o_no2 rfl rfl (by decide) ?_ | refine o_casep rfl rfl (fun _ => ?_) (fun _ => ?_) | refine o_casen rfl rfl (fun _ => ?_) (fun _ => ?_))) | (refine k_run ?_; (first | refine r_seq ?_ | refine r_region ?_ | refine r_true rfl ?_ | refine r_false rfl ?_ | refine r_skip ?_ | refine r_block ?_ | refine r_ifn rfl (fun _ => ?_) (fun _ => ?_))))
    all_goals try (exfalso; omega)
    all_goals exact r_ret Tryd.func40 _ (res_one rfl rfl) ⟨rfl, rfl⟩
  repeat' (first | (refine k_op1 ?_; (first | refine o_sv rfl (by decide) ?_ | (refine k_load ?_; (refine o_val (v_load rfl rfl rfl rfl) rfl rfl (by decide) ?_)) | (refine k_field ?_; (refine o_val (v_field rfl rfl) rfl rfl (by decide) ?_)) | (refine k_blt ?_; (refine o_val (v_lenm rfl) rfl rfl (by decide) ?_)) | (refine k_box ?_; (refine o_does (d_box rfl rfl rfl rfl rfl (by decide)) ?_)))) | (refine k_ops ?_; (first | refine o_go (by first | exact .inl rfl | exact .inr ⟨_, _, _, rfl, rfl, rfl⟩) ?_ | refine o_nil ?_ | refine o_no rfl rfl (by decide) ?_ | refine o_no2 rfl rfl (by decide) ?_ | refine o_casep rfl rfl (fun _ => ?_) (fun _ => ?_) | refine o_casen rfl rfl (fun _ => ?_) (fun _ => ?_))) | (refine k_run ?_; (first | refine r_seq ?_ | refine r_region ?_ | refine r_true rfl ?_ | refine r_false rfl ?_ | refine r_skip ?_ | refine r_block ?_ | refine r_ifn rfl (fun _ => ?_) (fun _ => ?_))))
  all_goals try (exfalso; omega)
  all_goals (
    refine r_loop ?_
    refine r_less (r_inv (fun i : Nat => ⟨101, [(1, .ptr (0, 1) 0), (3, I .i64 ks.length), (34, .d (.slice (ks.map rxc))), (35, I .i64 ks.length), (36, I .i64 (i : Nat))], [(1, .box ((rx5 op mn mx rs ks).map .d))], H⟩) (fun i => i ≤ ks.length ∧ (op = 4 ∨ kidsOK op (ks.take i) = true)) (fun i => ks.length - i) ?_ 0 ⟨Nat.zero_le _, .inr rfl⟩) rfl rfl
    rintro i ⟨i1, i2⟩ ihl
    by_cases hlt : i < ks.length
    · obtain ⟨k, hk2⟩ : ∃ k, ks[i]? = some k := ⟨_, List.getElem?_eq_getElem hlt⟩
      obtain ⟨op', mn', mx', rs', ks'⟩ := k
      have hk' := idx_rx hk2
      have hkt := kidsOK_take (op := op) hk2
      by_cases hbad : op' = op ∧ op ≠ 4
      · rw [vn_kid hk2 hbad.1 hbad.2]
        repeat' (first | (refine k_op1 ?_; (first | refine o_sv rfl (by decide) ?_ | (refine k_load ?_; (first | refine o_val (v_load rfl rfl rfl rfl) rfl rfl (by decide) ?_ | refine o_val (v_loadea rfl rfl) rfl rfl (by decide) ?_)) | (refine k_field ?_; (refine o_val (v_field rfl rfl) rfl rfl (by decide) ?_)) | (refine k_index ?_; (refine o_val (v_index (ys := ks.map rxc) rfl (by omega) hk' rfl) rfl rfl (by decide) ?_)) | (refine k_bin ?_; (refine o_val (v_add (wi64 (by omega) (by omega))) rfl rfl (by decide) ?_)) | (refine k_store ?_; (refine o_store0 rfl rfl rfl rfl rfl rfl ?_)) | (refine k_alloc ?_; (refine o_does (d_alloc rfl rfl (by decide)) ?_)))) | (refine k_ops ?_; (first | refine o_go (by first | exact .inl rfl | exact .inr ⟨_, _, _, rfl, rfl, rfl⟩) ?_ | refine o_nil ?_ | refine o_no rfl rfl (by decide) ?_ | refine o_no2 rfl rfl (by decide) ?_ | refine o_casep rfl rfl (fun _ => ?_) (fun _ => ?_))) | (refine k_run ?_; (first | refine r_seq ?_ | refine r_region ?_ | refine r_false rfl ?_ | refine r_skip ?_ | refine r_block ?_ | refine r_inBlock ?_ | refine r_if rfl (fun _ => ?_) (fun _ => ?_) | refine r_ifn rfl (fun _ => ?_) (fun _ => ?_) | refine r_exit rfl ?_)))
        all_goals try (exfalso; omega)
        all_goals exact r_ret Tryd.func40 _ (res_one rfl rfl) ⟨rfl, rfl⟩
      · repeat' (first | (refine k_op1 ?_; (first | refine o_sv rfl (by decide) ?_ | (refine k_load ?_; (first | refine o_val (v_load rfl rfl rfl rfl) rfl rfl (by decide) ?_ | refine o_val (v_loadea rfl rfl) rfl rfl (by decide) ?_)) | (refine k_field ?_; (refine o_val (v_field rfl rfl) rfl rfl (by decide) ?_)) | (refine k_index ?_; (refine o_val (v_index (ys := ks.map rxc) rfl (by omega) hk' rfl) rfl rfl (by decide) ?_)) | (refine k_bin ?_; (refine o_val (v_add (wi64 (by omega) (by omega))) rfl rfl (by decide) ?_)) | (refine k_store ?_; (refine o_store0 rfl rfl rfl rfl rfl rfl ?_)) | (refine k_alloc ?_; (refine o_does (d_alloc rfl rfl (by decide)) ?_)))) | (refine k_ops ?_; (first | refine o_go (by first | exact .inl rfl | exact .inr ⟨_, _, _, rfl, rfl, rfl⟩) ?_ | refine o_nil ?_ | refine o_no rfl rfl (by decide) ?_ | refine o_no2 rfl rfl (by decide) ?_ | refine o_casep rfl rfl (fun _ => ?_) (fun _ => ?_))) | (refine k_run ?_; (first | refine r_seq ?_ | refine r_region ?_ | refine r_false rfl ?_ | refine r_skip ?_ | refine r_block ?_ | refine r_inBlock ?_ | refine r_if rfl (fun _ => ?_) (fun _ => ?_) | refine r_ifn rfl (fun _ => ?_) (fun _ => ?_) | refine r_exit rfl ?_)))
        all_goals try (exfalso; omega)
        all_goals exact r_less (ihl (i + 1) ⟨by omega, by
          by_cases h4 : op = 4
          · exact .inl h4
          · rw [hkt, i2.resolve_left h4, Bool.true_and, Bool.not_eq_true', decide_eq_false_iff_not]
            exact .inr fun h2 => hbad ⟨h2, h4⟩⟩ (by omega)) rfl rfl
    · obtain rfl : i = ks.length := by omega
      rw [List.take_length] at i2
      have cv := validSet_s rs hr
      clear ihl
      have hvl := vn_late he i2
      by_cases o1 : op = 1
      · subst o1
        repeat' (first | (refine k_op1 ?_; (first | refine o_sv rfl (by decide) ?_ | (refine k_load ?_; (refine o_val (v_load rfl rfl rfl rfl) rfl rfl (by decide) ?_)) | (refine k_field ?_; (refine o_val (v_field rfl rfl) rfl rfl (by decide) ?_)) | (refine k_call ?_; (refine o_fn cv rfl (by decide) ?_)))) | (refine k_ops ?_; (first | refine o_go (by first | exact .inl rfl | exact .inr ⟨_, _, _, rfl, rfl, rfl⟩) ?_ | refine o_nil ?_ | refine o_no rfl rfl (by decide) ?_ | refine o_casep rfl rfl (fun _ => ?_) (fun _ => ?_))) | (refine k_run ?_; (first | refine r_seq ?_ | refine r_region ?_ | refine r_true rfl ?_ | refine r_skip ?_ | refine r_block ?_ | refine r_if rfl (fun _ => ?_) (fun _ => ?_) | refine r_exit rfl ?_)))
        all_goals try (exfalso; omega)
        all_goals (refine r_ret Tryd.func40 _ (res_one rfl rfl) ⟨?_, rfl⟩; rw [hvl]; simp_all <;> omega)
      by_cases o2 : op = 2
      · subst o2
        repeat' (first | (refine k_op1 ?_; (first | refine o_sv rfl (by decide) ?_ | (refine k_load ?_; (refine o_val (v_load rfl rfl rfl rfl) rfl rfl (by decide) ?_)) | (refine k_field ?_; (refine o_val (v_field rfl rfl) rfl rfl (by decide) ?_)))) | (refine k_ops ?_; (first | refine o_go (by first | exact .inl rfl | exact .inr ⟨_, _, _, rfl, rfl, rfl⟩) ?_ | refine o_nil ?_)) | (refine k_run ?_; (first | refine r_seq ?_ | refine r_region ?_ | refine r_true rfl ?_ | refine r_false rfl ?_ | refine r_skip ?_ | refine r_block ?_ | refine r_if rfl (fun _ => ?_) (fun _ => ?_) | refine r_exit rfl ?_)))
        all_goals try (exfalso; omega)
        all_goals (refine r_ret Tryd.func40 _ (res_one rfl rfl) ⟨?_, rfl⟩; rw [hvl]; simp_all <;> omega)
      by_cases o3 : op = 3
      · subst o3
        repeat' (first | (refine k_op1 ?_; (first | refine o_sv rfl (by decide) ?_ | (refine k_load ?_; (refine o_val (v_load rfl rfl rfl rfl) rfl rfl (by decide) ?_)) | (refine k_field ?_; (refine o_val (v_field rfl rfl) rfl rfl (by decide) ?_)))) | (refine k_ops ?_; (first | refine o_go (by first | exact .inl rfl | exact .inr ⟨_, _, _, rfl, rfl, rfl⟩) ?_ | refine o_nil ?_)) | (refine k_run ?_; (first | refine r_seq ?_ | refine r_region ?_ | refine r_true rfl ?_ | refine r_false rfl ?_ | refine r_skip ?_ | refine r_block ?_ | refine r_if rfl (fun _ => ?_) (fun _ => ?_) | refine r_exit rfl ?_)))
        all_goals try (exfalso; omega)
        all_goals (refine r_ret Tryd.func40 _ (res_one rfl rfl) ⟨?_, rfl⟩; rw [hvl]; simp_all <;> omega)
      by_cases o4 : op = 4
      · subst o4
        repeat' (first | (refine k_op1 ?_; (first | refine o_sv rfl (by decide) ?_ | (refine k_load ?_; (refine o_val (v_load rfl rfl rfl rfl) rfl rfl (by decide) ?_)) | (refine k_field ?_; (refine o_val (v_field rfl rfl) rfl rfl (by decide) ?_)))) | (refine k_ops ?_; (first | refine o_go (by first | exact .inl rfl | exact .inr ⟨_, _, _, rfl, rfl, rfl⟩) ?_ | refine o_nil ?_ | refine o_no rfl rfl (by decide) ?_ | refine o_no2 rfl rfl (by decide) ?_ | refine o_casep rfl rfl (fun _ => ?_) (fun _ => ?_))) | (refine k_run ?_; (first | refine r_seq ?_ | refine r_region ?_ | refine r_true rfl ?_ | refine r_false rfl ?_ | refine r_skip ?_ | refine r_block ?_ | refine r_if rfl (fun _ => ?_) (fun _ => ?_) | refine r_exit rfl ?_)))
        all_goals try (exfalso; omega)
        all_goals (refine r_ret Tryd.func40 _ (res_one rfl rfl) ⟨?_, rfl⟩; rw [hvl]; simp_all <;> omega)
      · repeat' (first | (refine k_op1 ?_; (first | refine o_sv rfl (by decide) ?_ | (refine k_load ?_; (refine o_val (v_load rfl rfl rfl rfl) rfl rfl (by decide) ?_)) | (refine k_field ?_; (refine o_val (v_field rfl rfl) rfl rfl (by decide) ?_)))) | (refine k_ops ?_; (first | refine o_go (by first | exact .inl rfl | exact .inr ⟨_, _, _, rfl, rfl, rfl⟩) ?_ | refine o_nil ?_ | refine o_no rfl rfl (by decide) ?_ | refine o_no2 rfl rfl (by decide) ?_ | refine o_casep rfl rfl (fun _ => ?_) (fun _ => ?_))) | (refine k_run ?_; (first | refine r_seq ?_ | refine r_region ?_ | refine r_skip ?_ | refine r_block ?_ | refine r_inBlock ?_ | refine r_if rfl (fun _ => ?_) (fun _ => ?_) | refine r_exit rfl ?_)))
        all_goals try (exfalso; omega)
        all_goals (refine r_ret Tryd.func40 _ (res_one rfl rfl) ⟨?_, rfl⟩; rw [hvl]; simp_all <;> omega))
end Go.Proofs.YtjmbjgecfpggdaaDoor
namespace Go.Proofs.YtjmbjgecfpggdaaDoor
open Go.Ab Go.Rx
set_option maxHeartbeats 20000000
set_option maxRecDepth 100000
set_option linter.unusedVariables false
set_option linter.unusedSimpArgs false
attribute [local irreducible] Run Ops Op1 Does Val Tr PureF Eff1 NF Rel EffV EffM
theorem vnsL_drop {ks : List Rx} {i : Nat} {k : Rx} (h : ks[i]? = some k) : vnsL (ks.drop i) = (vns k && vnsL (ks.drop (i + 1))) := by rw [drop_cons h, vnsL]
theorem validNodes_s : ∀ (e : Rx), fit e → PureF Tryd.prog 25 [.d (Drx e)] (B (vns e)) := by
  refine Rx.ind' fun op mn mx rs ks ih hfit => ?_
  obtain ⟨hf1, hf2, hf3⟩ := hfit
  refine pure_of fun H => ?_
  refine spec_of Tryd.func25 (by kernel_rfl) rfl (by simp) ?_
  rw [Drx, rxc_mk, vns]
  dsimp only [Tryd.f25]
  have cv := validNode_s op mn mx rs ks hf1 hf2
  cases hv : vn (.mk op mn mx rs ks) with
  | false =>
    rw [hv] at cv
    repeat' (first | (refine k_op1 ?_; (first | refine o_sv rfl (by decide) ?_ | (refine k_load ?_; (refine o_val (v_loada rfl rfl rfl) rfl rfl (by decide) ?_)) | (refine k_call ?_; (refine o_fn cv rfl (by decide) ?_)) | (refine k_box ?_; (refine o_does (d_box rfl rfl rfl rfl rfl (by decide)) ?_)))) | (refine k_ops ?_; (first | refine o_go (by first | exact .inl rfl | exact .inr ⟨_, _, _, rfl, rfl, rfl⟩) ?_ | refine o_nil ?_)) | (refine k_run ?_; (first | refine r_seq ?_ | refine r_region ?_ | refine r_true rfl ?_)))
    all_goals try (exfalso; omega)
    exact r_ret Tryd.func25 _ (res_one rfl rfl) ⟨rfl, rfl⟩
  | true =>
    rw [hv] at cv
    rw [Bool.true_and]
    repeat' (first | (refine k_op1 ?_; (first | refine o_sv rfl (by decide) ?_ | (refine k_load ?_; (first | refine o_val (v_loada rfl rfl rfl) rfl rfl (by decide) ?_ | refine o_val (v_load rfl rfl rfl rfl) rfl rfl (by decide) ?_)) | (refine k_field ?_; (refine o_val (v_field rfl rfl) rfl rfl (by decide) ?_)) | (refine k_blt ?_; (refine o_val (v_lenm rfl) rfl rfl (by decide) ?_)) | (refine k_call ?_; (refine o_fn cv rfl (by decide) ?_)) | (refine k_box ?_; (refine o_does (d_box rfl rfl rfl rfl rfl (by decide)) ?_)))) | (refine k_ops ?_; (first | refine o_go (by first | exact .inl rfl | exact .inr ⟨_, _, _, rfl, rfl, rfl⟩) ?_ | refine o_nil ?_)) | (refine k_run ?_; (first | refine r_seq ?_ | refine r_region ?_ | refine r_false rfl ?_ | refine r_skip ?_ | refine r_block ?_)))
    all_goals try (exfalso; omega)
    refine r_loop ?_
    refine r_less (r_inv (fun i : Nat => ⟨19, [(9, .d (.slice (ks.map rxc))), (10, I .i64 ks.length), (11, I .i64 (i : Nat))], [], H⟩) (fun i => i ≤ ks.length ∧ vnsL (ks.drop i) = vnsL ks) (fun i => ks.length - i) ?_ 0 ⟨Nat.zero_le _, rfl⟩) rfl rfl
    rintro i ⟨i1, i2⟩ ihl
    by_cases hlt : i < ks.length
    · obtain ⟨k, hk⟩ : ∃ k, ks[i]? = some k := ⟨_, List.getElem?_eq_getElem hlt⟩
      have c := ih k (List.mem_of_getElem? hk) (fitL_mem hf3 k (List.mem_of_getElem? hk))
      rw [vnsL_drop hk] at i2
      cases hvk : vns k with
      | true =>
        rw [hvk] at c i2
        rw [Bool.true_and] at i2
        obtain ⟨op', mn', mx', rs', ks'⟩ := k
        have hk' := idx_rx hk
        rw [Drx, rxc_mk] at c
        repeat' (first | (refine k_op1 ?_; (first | refine o_sv rfl (by decide) ?_ | (refine k_load ?_; (first | refine o_val (v_loadea rfl rfl) rfl rfl (by decide) ?_ | refine o_val (v_loadp rfl rfl rfl rfl) rfl rfl (by decide) ?_)) | (refine k_index ?_; (refine o_val (v_index (ys := ks.map rxc) rfl (by omega) hk' rfl) rfl rfl (by decide) ?_)) | (refine k_bin ?_; (refine o_val (v_add (wi64 (by omega) (by omega))) rfl rfl (by decide) ?_)) | (refine k_call ?_; (refine o_fn c rfl (by decide) ?_)) | (refine k_store ?_; (refine o_store0 rfl rfl rfl rfl rfl rfl ?_)) | (refine k_alloc ?_; (refine o_does (d_alloc rfl rfl (by decide)) ?_)))) | (refine k_ops ?_; (first | refine o_go (by first | exact .inl rfl | exact .inr ⟨_, _, _, rfl, rfl, rfl⟩) ?_ | refine o_nil ?_)) | (refine k_run ?_; (first | refine r_seq ?_ | refine r_region ?_ | refine r_false rfl ?_ | refine r_skip ?_ | refine r_block ?_ | refine r_inBlock ?_ | refine r_if rfl (fun _ => ?_) (fun _ => ?_) | refine r_exit rfl ?_)))
        all_goals try (exfalso; omega)
        exact r_less (ihl (i + 1) ⟨by omega, i2⟩ (by omega)) rfl rfl
      | false =>
        rw [hvk] at c i2
        rw [Bool.false_and] at i2
        obtain ⟨op', mn', mx', rs', ks'⟩ := k
        have hk' := idx_rx hk
        rw [Drx, rxc_mk] at c
        repeat' (first | (refine k_op1 ?_; (first | refine o_sv rfl (by decide) ?_ | (refine k_load ?_; (first | refine o_val (v_loadea rfl rfl) rfl rfl (by decide) ?_ | refine o_val (v_loadp rfl rfl rfl rfl) rfl rfl (by decide) ?_)) | (refine k_index ?_; (refine o_val (v_index (ys := ks.map rxc) rfl (by omega) hk' rfl) rfl rfl (by decide) ?_)) | (refine k_call ?_; (refine o_fn c rfl (by decide) ?_)) | (refine k_store ?_; (refine o_store0 rfl rfl rfl rfl rfl rfl ?_)) | (refine k_alloc ?_; (refine o_does (d_alloc rfl rfl (by decide)) ?_)))) | (refine k_ops ?_; (first | refine o_go (by first | exact .inl rfl | exact .inr ⟨_, _, _, rfl, rfl, rfl⟩) ?_ | refine o_nil ?_)) | (refine k_run ?_; (first | refine r_seq ?_ | refine r_region ?_ | refine r_true rfl ?_ | refine r_skip ?_ | refine r_block ?_ | refine r_if rfl (fun _ => ?_) (fun _ => ?_) | refine r_exit rfl ?_)))
        all_goals try (exfalso; omega)
        refine r_ret Tryd.func25 _ (res_one rfl rfl) ⟨?_, rfl⟩
        rw [← i2]
    · obtain rfl : i = ks.length := by omega
      rw [List.drop_length, vnsL] at i2
      repeat' (first | (refine k_op1 ?_; (refine o_sv rfl (by decide) ?_)) | (refine k_ops ?_; (first | refine o_go (by first | exact .inl rfl | exact .inr ⟨_, _, _, rfl, rfl, rfl⟩) ?_ | refine o_nil ?_)) | (refine k_run ?_; (first | refine r_seq ?_ | refine r_region ?_ | refine r_skip ?_ | refine r_block ?_ | refine r_if rfl (fun _ => ?_) (fun _ => ?_) | refine r_exit rfl ?_)))
      all_goals try (exfalso; omega)
      refine r_ret Tryd.func25 _ (res_one rfl rfl) ⟨?_, rfl⟩
      rw [← i2]
theorem ps_rng {C : Int} (hC : 1 ≤ C) (e : Rx) (h : vns e = true) : 0 ≤ ps C e ∧ ps C e ≤ C := by
  rw [(ps_eq hC).1 e h]
  have := pn_nn.1 e h
  omega
theorem psL_drop {C : Int} {ks : List Rx} {i : Nat} {k : Rx} (h : ks[i]? = some k) (n : Int) : psL C (ks.drop i) n = psL C (ks.drop (i + 1)) (min (n + ps C k) C) := by rw [drop_cons h, psL]
theorem positions_s : ∀ (e : Rx), fit e → vns e = true → PureF Tryd.prog 26 [.d (Drx e)] (I .i64 (ps 65 e)) := by
  refine Rx.ind' fun op mn mx rs ks ih hfit hv => ?_
  obtain ⟨hf1, hf2, hf3⟩ := hfit
  rw [vns, Bool.and_eq_true] at hv
  refine pure_of fun H => ?_
  refine spec_of Tryd.func26 (by kernel_rfl) rfl (by simp) ?_
  rw [Drx, rxc_mk, ps]
  dsimp only [Tryd.f26]
  by_cases o1 : op = 1
  · rw [if_pos o1]
    repeat' (first | (refine k_op1 ?_; (first | refine o_sv rfl (by decide) ?_ | (refine k_load ?_; (refine o_val (v_load rfl rfl rfl rfl) rfl rfl (by decide) ?_)) | (refine k_field ?_; (refine o_val (v_field rfl rfl) rfl rfl (by decide) ?_)) | (refine k_blt ?_; (refine o_val (v_lenm rfl) rfl rfl (by decide) ?_)) | (refine k_box ?_; (refine o_does (d_box rfl rfl rfl rfl rfl (by decide)) ?_)))) | (refine k_ops ?_; (first | refine o_go (by first | exact .inl rfl | exact .inr ⟨_, _, _, rfl, rfl, rfl⟩) ?_ | refine o_nil ?_)) | (refine k_run ?_; (first | refine r_seq ?_ | refine r_region ?_ | refine r_skip ?_ | refine r_block ?_ | refine r_if rfl (fun _ => ?_) (fun _ => ?_))))
    all_goals try (exfalso; omega)
    exact r_ret Tryd.func26 _ (res_one rfl rfl) ⟨rfl, rfl⟩
  rw [if_neg o1]
  repeat' (first | (refine k_op1 ?_; (first | refine o_sv rfl (by decide) ?_ | (refine k_load ?_; (refine o_val (v_load rfl rfl rfl rfl) rfl rfl (by decide) ?_)) | (refine k_field ?_; (refine o_val (v_field rfl rfl) rfl rfl (by decide) ?_)) | (refine k_blt ?_; (refine o_val (v_lenm rfl) rfl rfl (by decide) ?_)) | (refine k_box ?_; (refine o_does (d_box rfl rfl rfl rfl rfl (by decide)) ?_)))) | (refine k_ops ?_; (first | refine o_go (by first | exact .inl rfl | exact .inr ⟨_, _, _, rfl, rfl, rfl⟩) ?_ | refine o_nil ?_)) | (refine k_run ?_; (first | refine r_seq ?_ | refine r_region ?_ | refine r_skip ?_ | refine r_block ?_ | refine r_if rfl (fun _ => ?_) (fun _ => ?_))))
  all_goals try (exfalso; omega)
  refine r_loop ?_
  refine r_less (r_inv (fun q : Nat × Int => ⟨42, [(1, .ptr (0, 1) 0), (3, I .i64 q.2), (10, .d (.slice (ks.map rxc))), (11, I .i64 ks.length), (12, I .i64 (q.1 : Nat))], [(1, .box ((rx5 op mn mx rs ks).map .d))], H⟩) (fun q => q.1 ≤ ks.length ∧ 0 ≤ q.2 ∧ q.2 ≤ 65 ∧ psL 65 (ks.drop q.1) q.2 = psL 65 ks 0) (fun q => ks.length - q.1) ?_ (0, 0) ⟨Nat.zero_le _, by simp, by simp, rfl⟩) rfl rfl
  rintro ⟨i, a⟩ ⟨i1, i2, i3, i4⟩ ihl
  simp only at i1 i2 i3 i4 ihl ⊢
  by_cases hlt : i < ks.length
  · obtain ⟨k, hk⟩ : ∃ k, ks[i]? = some k := ⟨_, List.getElem?_eq_getElem hlt⟩
    have hkv := vnsL_mem hv.2 k (List.mem_of_getElem? hk)
    have c := ih k (List.mem_of_getElem? hk) (fitL_mem hf3 k (List.mem_of_getElem? hk)) hkv
    have hr := ps_rng (C := 65) (by decide) k hkv
    rw [psL_drop hk] at i4
    generalize ps 65 k = pk at c hr i4
    obtain ⟨op', mn', mx', rs', ks'⟩ := k
    have hk' := idx_rx hk
    rw [Drx, rxc_mk] at c
    repeat' (first | (refine k_op1 ?_; (first | refine o_sv rfl (by decide) ?_ | (refine k_load ?_; (first | refine o_val (v_load rfl rfl rfl rfl) rfl rfl (by decide) ?_ | refine o_val (v_loadea rfl rfl) rfl rfl (by decide) ?_ | refine o_val (v_loadp rfl rfl rfl rfl) rfl rfl (by decide) ?_)) | (refine k_field ?_; (refine o_val (v_field rfl rfl) rfl rfl (by decide) ?_)) | (refine k_index ?_; (refine o_val (v_index (ys := ks.map rxc) rfl (by omega) hk' rfl) rfl rfl (by decide) ?_)) | (refine k_bin ?_; (first | refine o_val (v_add (wi64 (by omega) (by omega))) rfl rfl (by decide) ?_ | refine o_val (v_mul (wi64 (by omega) (by omega))) rfl rfl (by decide) ?_)) | (refine k_blt ?_; (first | refine o_val v_min rfl rfl (by decide) ?_ | refine o_val v_max rfl rfl (by decide) ?_)) | (refine k_call ?_; (refine o_fn c rfl (by decide) ?_)) | (refine k_store ?_; (refine o_store0 rfl rfl rfl rfl rfl rfl ?_)) | (refine k_alloc ?_; (refine o_does (d_alloc rfl rfl (by decide)) ?_)))) | (refine k_ops ?_; (first | refine o_go (by first | exact .inl rfl | exact .inr ⟨_, _, _, rfl, rfl, rfl⟩) ?_ | refine o_nil ?_)) | (refine k_run ?_; (first | refine r_seq ?_ | refine r_region ?_ | refine r_skip ?_ | refine r_block ?_ | refine r_inBlock ?_ | refine r_if rfl (fun _ => ?_) (fun _ => ?_) | refine r_ifn rfl (fun _ => ?_) (fun _ => ?_) | refine r_exit rfl ?_)))
    all_goals try (exfalso; omega)
    exact r_less (ihl (i + 1, min (a + pk) 65) ⟨by simp only; omega, by simp only; omega, by simp only; omega, i4⟩ (by simp only; omega)) rfl rfl
  · obtain rfl : i = ks.length := by omega
    rw [List.drop_length, psL] at i4
    subst i4
    by_cases o4 : op = 4
    · rw [if_pos o4]
      rcases vn_cases hv.1 with h | h | h | ⟨_, _, _, h1, h2, h3⟩
      · exact absurd (h.1.symm.trans o4) (by decide)
      · exact absurd (h.1.symm.trans o4) (by decide)
      · exact absurd (h.1.symm.trans o4) (by decide)
      have m1 : (psL 65 ks 0) * max mn 1 ≤ 65 * 16 := Int.mul_le_mul i3 (by omega) (by omega) (by decide)
      have m2 : 0 ≤ (psL 65 ks 0) * max mn 1 := Int.mul_nonneg i2 (by omega)
      have m3 : mx ≠ -1 → (psL 65 ks 0) * mx ≤ 65 * 16 := fun h => Int.mul_le_mul i3 (by omega) (by omega) (by decide)
      have m4 : mx ≠ -1 → 0 ≤ (psL 65 ks 0) * mx := fun h => Int.mul_nonneg i2 (by omega)
      rw [rep]
      by_cases hm : mx = -1
      · rw [if_pos hm]
        repeat' (first | (refine k_op1 ?_; (first | refine o_sv rfl (by decide) ?_ | (refine k_load ?_; (refine o_val (v_load rfl rfl rfl rfl) rfl rfl (by decide) ?_)) | (refine k_field ?_; (refine o_val (v_field rfl rfl) rfl rfl (by decide) ?_)) | (refine k_bin ?_; (refine o_val (v_mul (wi64 (by omega) (by omega))) rfl rfl (by decide) ?_)) | (refine k_blt ?_; (first | refine o_val v_min rfl rfl (by decide) ?_ | refine o_val v_max rfl rfl (by decide) ?_)))) | (refine k_ops ?_; (first | refine o_go (by first | exact .inl rfl | exact .inr ⟨_, _, _, rfl, rfl, rfl⟩) ?_ | refine o_nil ?_)) | (refine k_run ?_; (first | refine r_seq ?_ | refine r_region ?_ | refine r_skip ?_ | refine r_block ?_ | refine r_inBlock ?_ | refine r_if rfl (fun _ => ?_) (fun _ => ?_) | refine r_ifn rfl (fun _ => ?_) (fun _ => ?_) | refine r_exit rfl ?_)))
        all_goals try (exfalso; omega)
        exact r_ret Tryd.func26 _ (res_one rfl rfl) ⟨rfl, rfl⟩
      · rw [if_neg hm]
        have m5 := m3 hm
        have m6 := m4 hm
        repeat' (first | (refine k_op1 ?_; (first | refine o_sv rfl (by decide) ?_ | (refine k_load ?_; (refine o_val (v_load rfl rfl rfl rfl) rfl rfl (by decide) ?_)) | (refine k_field ?_; (refine o_val (v_field rfl rfl) rfl rfl (by decide) ?_)) | (refine k_bin ?_; (refine o_val (v_mul (wi64 (by omega) (by omega))) rfl rfl (by decide) ?_)) | (refine k_blt ?_; (first | refine o_val v_min rfl rfl (by decide) ?_ | refine o_val v_max rfl rfl (by decide) ?_)))) | (refine k_ops ?_; (first | refine o_go (by first | exact .inl rfl | exact .inr ⟨_, _, _, rfl, rfl, rfl⟩) ?_ | refine o_nil ?_)) | (refine k_run ?_; (first | refine r_seq ?_ | refine r_region ?_ | refine r_skip ?_ | refine r_block ?_ | refine r_inBlock ?_ | refine r_if rfl (fun _ => ?_) (fun _ => ?_) | refine r_ifn rfl (fun _ => ?_) (fun _ => ?_) | refine r_exit rfl ?_)))
        all_goals try (exfalso; omega)
        exact r_ret Tryd.func26 _ (res_one rfl rfl) ⟨rfl, rfl⟩
    · rw [if_neg o4]
      repeat' (first | (refine k_op1 ?_; (first | refine o_sv rfl (by decide) ?_ | (refine k_load ?_; (refine o_val (v_load rfl rfl rfl rfl) rfl rfl (by decide) ?_)) | (refine k_field ?_; (refine o_val (v_field rfl rfl) rfl rfl (by decide) ?_)) | (refine k_bin ?_; (refine o_val (v_mul (wi64 (by omega) (by omega))) rfl rfl (by decide) ?_)) | (refine k_blt ?_; (first | refine o_val v_min rfl rfl (by decide) ?_ | refine o_val v_max rfl rfl (by decide) ?_)))) | (refine k_ops ?_; (first | refine o_go (by first | exact .inl rfl | exact .inr ⟨_, _, _, rfl, rfl, rfl⟩) ?_ | refine o_nil ?_)) | (refine k_run ?_; (first | refine r_seq ?_ | refine r_region ?_ | refine r_skip ?_ | refine r_block ?_ | refine r_inBlock ?_ | refine r_if rfl (fun _ => ?_) (fun _ => ?_) | refine r_ifn rfl (fun _ => ?_) (fun _ => ?_) | refine r_exit rfl ?_)))
      all_goals try (exfalso; omega)
      refine r_ret Tryd.func26 _ (res_one rfl rfl) ⟨?_, rfl⟩
      rw [Int.min_eq_left i3]
theorem validate_s (e : Rx) (hfit : fit e) : PureF Tryd.prog 10 [.d (Drx e)] (I .i64 (val e)) := by
  refine pure_of fun H => ?_
  refine spec_of Tryd.func10 (by kernel_rfl) rfl (by simp) ?_
  have c1 := small_s 3 e hfit 1 0 0 (by decide) (by decide) (by decide) (by decide)
  have c2 := validNodes_s e hfit
  have c3 := fun h => positions_s e hfit h
  rw [val_sm]
  generalize sm e 1 0 = r at c1
  obtain ⟨rb, rn⟩ := r
  simp only at c1 ⊢
  generalize ps 65 e = pe at c3
  generalize vns e = ve at c2 c3
  obtain ⟨op, mn, mx, rs, ks⟩ := e
  rw [Drx, rxc_mk] at *
  dsimp only [Tryd.f10]
  cases rb with
  | false =>
    repeat' (first | (refine k_op1 ?_; (first | refine o_sv rfl (by decide) ?_ | (refine k_load ?_; (refine o_val (v_loada rfl rfl rfl) rfl rfl (by decide) ?_)) | (refine k_call ?_; (refine o_eff1 c1 rfl rfl (by decide) ?_)) | (refine k_store ?_; (refine o_store0 rfl rfl rfl rfl rfl rfl ?_)) | (refine k_alloc ?_; (refine o_does (d_alloc rfl rfl (by decide)) ?_)) | (refine k_box ?_; (refine o_does (d_box rfl rfl rfl rfl rfl (by decide)) ?_)))) | (refine k_ops ?_; (first | refine o_go (by first | exact .inl rfl | exact .inr ⟨_, _, _, rfl, rfl, rfl⟩) ?_ | refine o_nil ?_)) | (refine k_run ?_; (first | refine r_seq ?_ | refine r_region ?_ | refine r_true rfl ?_ | refine r_block ?_)))
    all_goals try (exfalso; omega)
    exact r_ret Tryd.func10 _ (res_one rfl rfl) ⟨rfl, rfl⟩
  | true =>
    cases ve with
    | false =>
      repeat' (first | (refine k_op1 ?_; (first | refine o_sv rfl (by decide) ?_ | (refine k_load ?_; (refine o_val (v_loada rfl rfl rfl) rfl rfl (by decide) ?_)) | (refine k_call ?_; (first | refine o_eff1 c1 rfl rfl (by decide) ?_ | refine o_fn c2 rfl (by decide) ?_)) | (refine k_store ?_; (refine o_store0 rfl rfl rfl rfl rfl rfl ?_)) | (refine k_alloc ?_; (refine o_does (d_alloc rfl rfl (by decide)) ?_)) | (refine k_box ?_; (refine o_does (d_box rfl rfl rfl rfl rfl (by decide)) ?_)))) | (refine k_ops ?_; (first | refine o_go (by first | exact .inl rfl | exact .inr ⟨_, _, _, rfl, rfl, rfl⟩) ?_ | refine o_nil ?_)) | (refine k_run ?_; (first | refine r_seq ?_ | refine r_region ?_ | refine r_true rfl ?_ | refine r_false rfl ?_ | refine r_block ?_)))
      all_goals try (exfalso; omega)
      exact r_ret Tryd.func10 _ (res_one rfl rfl) ⟨rfl, rfl⟩
    | true =>
      have c4 := c3 rfl
      by_cases hp : 64 < pe
      · repeat' (first | (refine k_op1 ?_; (first | refine o_sv rfl (by decide) ?_ | (refine k_load ?_; (refine o_val (v_loada rfl rfl rfl) rfl rfl (by decide) ?_)) | (refine k_call ?_; (first | refine o_eff1 c1 rfl rfl (by decide) ?_ | refine o_fn c2 rfl (by decide) ?_ | refine o_fn c4 rfl (by decide) ?_)) | (refine k_store ?_; (refine o_store0 rfl rfl rfl rfl rfl rfl ?_)) | (refine k_alloc ?_; (refine o_does (d_alloc rfl rfl (by decide)) ?_)) | (refine k_box ?_; (refine o_does (d_box rfl rfl rfl rfl rfl (by decide)) ?_)))) | (refine k_ops ?_; (first | refine o_go (by first | exact .inl rfl | exact .inr ⟨_, _, _, rfl, rfl, rfl⟩) ?_ | refine o_nil ?_)) | (refine k_run ?_; (first | refine r_seq ?_ | refine r_region ?_ | refine r_false rfl ?_ | refine r_skip ?_ | refine r_block ?_ | refine r_inBlock ?_ | refine r_if rfl (fun _ => ?_) (fun _ => ?_))))
        all_goals try (exfalso; omega)
        refine r_ret Tryd.func10 _ (res_one rfl rfl) ⟨?_, rfl⟩
        simp [hp]
      · repeat' (first | (refine k_op1 ?_; (first | refine o_sv rfl (by decide) ?_ | (refine k_load ?_; (refine o_val (v_loada rfl rfl rfl) rfl rfl (by decide) ?_)) | (refine k_call ?_; (first | refine o_eff1 c1 rfl rfl (by decide) ?_ | refine o_fn c2 rfl (by decide) ?_ | refine o_fn c4 rfl (by decide) ?_)) | (refine k_store ?_; (refine o_store0 rfl rfl rfl rfl rfl rfl ?_)) | (refine k_alloc ?_; (refine o_does (d_alloc rfl rfl (by decide)) ?_)) | (refine k_box ?_; (refine o_does (d_box rfl rfl rfl rfl rfl (by decide)) ?_)))) | (refine k_ops ?_; (first | refine o_go (by first | exact .inl rfl | exact .inr ⟨_, _, _, rfl, rfl, rfl⟩) ?_ | refine o_nil ?_)) | (refine k_run ?_; (first | refine r_seq ?_ | refine r_region ?_ | refine r_false rfl ?_ | refine r_skip ?_ | refine r_block ?_ | refine r_inBlock ?_ | refine r_if rfl (fun _ => ?_) (fun _ => ?_))))
        all_goals try (exfalso; omega)
        refine r_ret Tryd.func10 _ (res_one rfl rfl) ⟨?_, rfl⟩
        simp [hp]
end Go.Proofs.YtjmbjgecfpggdaaDoor
