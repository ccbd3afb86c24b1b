/- A part of the proof: G45. -/
import Derived.Test.YtjmbjgecfpggdaaDoorM44
import Derived.Test.YtjmbjgecfpggdaaDoorRv
import Derived.Test.YtjmbjgecfpggdaaDoorRb
set_option linter.all false
set_option linter.unusedVariables false
set_option linter.unusedSimpArgs false
namespace Go.Proofs.YtjmbjgecfpggdaaDoor
open Go.Ab Go.Rx
set_option maxHeartbeats 20000000
set_option maxRecDepth 100000
set_option linter.unusedVariables false
set_option linter.unusedSimpArgs false
set_option linter.unusedSectionVars false
attribute [local irreducible] Run Ops Op1 Does Val Tr PureF Eff1 NF Rel EffV EffM EffN
abbrev bl (s : ByteArray) : List UInt8 := s.data.toList
theorem bl_app (a b : ByteArray) : bl (a ++ b) = bl a ++ bl b := by simp [bl, ByteArray.data_append]
theorem bl_inj {a b : ByteArray} (h : bl a = bl b) : a = b := by
  cases a; cases b; simp only [bl, Array.toList_inj] at h; rw [h]
theorem bl_tx (a b : List Int) : bl (txE (a ++ b)) = bl (txE a) ++ bl (txE b) := by rw [txE_app, bl_app]
theorem jn_C : ∀ ks : List Rx, jnB (ks.map fun k => txE (fm k 2)) ⟨#[]⟩ = txE (fmC ks)
  | [] => rfl
  | k :: ks => by
    have hT : ∀ ks : List Rx, Lib.joinTail [] ((ks.map fun k => txE (fm k 2)).map (·.data.toList)) = bl (txE (fmC ks)) := fun ks => by
      induction ks with
      | nil => rfl
      | cons k ks ih =>
        rw [fmC, bl_tx, ← ih, List.map_cons, List.map_cons, Lib.joinTail, List.map_cons, List.flatten_cons]; rfl
    refine bl_inj ?_
    rw [jnB, fmC, bl_tx, List.map_cons, List.map_cons, Lib.join_cons]
    show _ ++ Lib.joinTail [] _ = _
    rw [hT]
theorem jn_U : ∀ ks : List Rx, jnB (ks.map fun k => txE (fm k 3)) ⟨#[124]⟩ = txE (fmU ks)
  | [] => rfl
  | k :: ks => by
    have hT : ∀ ks : List Rx, Lib.joinTail [124] ((ks.map fun k => txE (fm k 3)).map (·.data.toList)) = bl (txE (fmV ks)) := fun ks => by
      induction ks with
      | nil => rfl
      | cons k ks ih =>
        rw [fmV, bl_tx, bl_tx, ← ih, List.map_cons, List.map_cons, Lib.joinTail, List.map_cons, List.flatten_cons, List.append_assoc]; rfl
    refine bl_inj ?_
    rw [jnB, fmU, bl_tx, List.map_cons, List.map_cons, Lib.join_cons]
    show _ ++ Lib.joinTail [124] _ = _
    rw [hT]
def txR : Rx → Int → ByteArray × Bool
  | .mk op mn mx rs ks, w => if op = 1 then (txE (fset rs), !rs.any txl) else if wrtL ks = true then (txE (fm (.mk op mn mx rs ks) w), true) else (⟨#[]⟩, false)
theorem txR_ok {e : Rx} (hv : vns e = true) (w : Int) : (txR e w).2 = wrt e := by
  obtain ⟨op, mn, mx, rs, ks⟩ := e
  rw [vns, Bool.and_eq_true] at hv
  rw [txR, wrt]
  by_cases o1 : op = 1
  · rcases vn_cases hv.1 with ⟨_, _, _, rfl, _⟩ | ⟨h, _⟩ | ⟨h, _⟩ | ⟨h, _⟩
    · rw [if_pos o1, wrtL, Bool.and_true]
    all_goals omega
  · rw [if_neg o1]
    have hrs : rs = [] := by
      have h := hv.1
      rw [vn, if_neg o1] at h
      split at h
      · simp only [Bool.and_eq_true, decide_eq_true_eq] at h; exact List.eq_nil_of_length_eq_zero h.1.1.2
      · split at h
        · simp only [Bool.and_eq_true, decide_eq_true_eq] at h; exact List.eq_nil_of_length_eq_zero h.1.1.2
        · split at h
          · simp only [Bool.and_eq_true, decide_eq_true_eq] at h; exact List.eq_nil_of_length_eq_zero h.1.1.1.1
          · cases h
    subst hrs
    cases wrtL ks <;> simp
theorem txR_tx {e : Rx} (hv : vns e = true) (w : Int) (h : wrt e = true) : (txR e w).1 = txE (fm e w) := by
  obtain ⟨op, mn, mx, rs, ks⟩ := e
  rw [wrt, Bool.and_eq_true] at h
  rw [txR]
  by_cases o1 : op = 1
  · rw [if_pos o1, fm, if_pos o1]
  · rw [if_neg o1, if_pos h.2]
theorem wrtL_take : ∀ {ks : List Rx} {i : Nat} {k : Rx}, ks[i]? = some k → wrtL (ks.take (i + 1)) = (wrtL (ks.take i) && wrt k)
  | [], i, k, h => by simp at h
  | x :: ks, 0, k, h => by
    simp only [List.getElem?_cons_zero, Option.some.injEq] at h
    subst h
    simp [List.take_succ_cons, wrtL]
  | x :: ks, i + 1, k, h => by
    rw [List.getElem?_cons_succ] at h
    rw [List.take_succ_cons, List.take_succ_cons, wrtL, wrtL, wrtL_take h, Bool.and_assoc]
theorem wrtL_bad {ks : List Rx} {k : Rx} (h : k ∈ ks) (hk : wrt k = false) : wrtL ks = false := by
  rw [Bool.eq_false_iff]
  intro h2
  have := wrtL_mem h2 k h
  rw [hk] at this; cases this
theorem szL_mem : ∀ {ks : List Rx} {k : Rx}, k ∈ ks → sz k ≤ szL ks
  | [], k, h => by simp at h
  | x :: ks, k, h => by
    rw [List.mem_cons] at h
    rw [szL]
    rcases h with rfl | h
    · omega
    · have := szL_mem h; omega
abbrev sB (s : ByteArray) : List D := [.lit (.string s)]
abbrev txP (e : Rx) (w : Int) : PV := .tup [S (txR e w).1, B (txR e w).2]
theorem text_s : ∀ e : Rx, fit e → vns e = true → sz e ≤ 200 → ∀ w : Int, PureF Tryd.prog 39 [.d (Drx e), I .i64 w] (txP e w) := by
  refine Rx.ind' fun op mn mx rs ks ih hfit hv hsz w => ?_
  obtain ⟨hf1, hf2, hf3⟩ := hfit
  have hvn := hv
  rw [vns, Bool.and_eq_true] at hvn
  obtain ⟨hvn, hvk⟩ := hvn
  rw [sz] at hsz
  refine pure_of fun H => ?_
  by_cases o1 : op = 1
  · subst o1
    have hrs : okRs rs = true := by
      rw [vn, if_pos rfl, Bool.and_eq_true] at hvn; exact hvn.2
    have c1 := set_s rs hrs
    have c2 := textless_s rs hf1
    rw [txP, txR, if_pos rfl, Drx_mk]
    generalize txE (fset rs) = T at *
    generalize rs.any txl = b at *
    refine spec_of Tryd.func39 (by kernel_rfl) rfl (by simp) ?_
    dsimp only [Tryd.f39]
    repeat' (first | (refine k_op1 ?_; (first | refine o_sv rfl (by decide) ?_ | (refine k_load ?_; (refine o_val (v_load rfl rfl rfl rfl) rfl rfl (by decide) ?_)) | (refine k_field ?_; (refine o_val (v_field rfl rfl) rfl rfl (by decide) ?_)) | (refine k_box ?_; (refine o_does (d_box rfl rfl rfl rfl rfl (by decide)) ?_)))) | (refine k_ops ?_; (first | refine o_go (by first | exact .inl rfl | exact .inr ⟨_, _, _, rfl, rfl, rfl⟩) ?_ | refine o_nil ?_)) | (refine k_run ?_; (first | refine r_seq ?_ | refine r_region ?_ | refine r_true rfl ?_ | refine r_tr ?_)) | (refine k_tr ?_; (first | (refine kt_end ?_; refine t_end mix (by kernel_rfl) ?_) | refine t_sv rfl (by first | exact rfl | exact ⟨_, rfl, rfl, rfl⟩) (by decide) ?_ | (refine kt_load ?_; (refine t_val (v_load rfl rfl rfl rfl) (by first | exact rfl | exact ⟨_, rfl, rfl, rfl⟩) rfl rfl (by decide) ?_)) | (refine kt_field ?_; (refine t_val (v_field rfl rfl) (by first | exact rfl | exact ⟨_, rfl, rfl, rfl⟩) rfl rfl (by decide) ?_)) | (refine kt_call ?_; (first | refine t_fn c1 (by first | exact rfl | exact ⟨_, rfl, rfl, rfl⟩) rfl (by decide) ?_ | refine t_fn c2 (by first | exact rfl | exact ⟨_, rfl, rfl, rfl⟩) rfl (by decide) ?_)))))
    all_goals try (exfalso; omega)
    all_goals exact r_ret Tryd.func39 _ (res_two rfl rfl rfl) ⟨rfl, rfl⟩
  have hlen := fm_len.1 (.mk op mn mx rs ks) hv w
  rw [sz] at hlen
  have hsub : ∀ k ∈ ks, sz k ≤ szL ks := fun k hk => szL_mem hk
  have hkl := len_szL ks
  refine spec_of Tryd.func39 (by kernel_rfl) rfl (by simp) ?_
  dsimp only [Tryd.f39]
  rw [txP, txR, if_neg o1, Drx_mk]
  repeat' (first | (refine k_op1 ?_; (first | refine o_sv rfl (by decide) ?_ | (refine k_load ?_; (refine o_val (v_load rfl rfl rfl rfl) rfl rfl (by decide) ?_)) | (refine k_field ?_; (refine o_val (v_field rfl rfl) rfl rfl (by decide) ?_)) | (refine k_box ?_; (refine o_does (d_box rfl rfl rfl rfl rfl (by decide)) ?_)))) | (refine k_ops ?_; (first | refine o_go (by first | exact .inl rfl | exact .inr ⟨_, _, _, rfl, rfl, rfl⟩) ?_ | refine o_nil ?_)) | (refine k_run ?_; (first | (refine r_stop (A := .seq (.region 4 _ _) _) ?_) | refine r_seq ?_ | refine r_region ?_ | refine r_skip ?_ | refine r_tr ?_ | refine r_if rfl (fun _ => ?_) (fun _ => ?_))) | (refine k_tr ?_; (first | (refine kt_load ?_; (refine t_val (v_load rfl rfl rfl rfl) (by first | exact rfl | exact ⟨_, rfl, rfl, rfl⟩) rfl rfl (by decide) ?_)) | (refine kt_field ?_; (refine t_val (v_field rfl rfl) (by first | exact rfl | exact ⟨_, rfl, rfl, rfl⟩) rfl rfl (by decide) ?_)))))
  all_goals try (exfalso; omega)
  refine stop_go ?_
  refine r_slot_row 6 1000 9 1 rfl rfl rfl ?_
  repeat' (first | (refine k_op1 ?_; (first | refine o_sv rfl (by decide) ?_ | (refine k_load ?_; (refine o_val (v_load rfl rfl rfl rfl) rfl rfl (by decide) ?_)) | (refine k_field ?_; (refine o_val (v_field rfl rfl) rfl rfl (by decide) ?_)) | (refine k_blt ?_; (refine o_val (v_lenm rfl) rfl rfl (by decide) ?_)))) | (refine k_ops ?_; (first | refine o_go (by first | exact .inl rfl | exact .inr ⟨_, _, _, rfl, rfl, rfl⟩) ?_ | refine o_nil ?_)) | (refine k_run ?_; (first | refine r_seq ?_ | refine r_region ?_ | refine r_block ?_)))
  refine r_loop ?_
  refine r_less (r_inv (fun q : Nat => ⟨75, [(1, I .i64 w), (2, .ptr (0, 2) 0), (6, .ref (0, 1000)), (24, .d (.slice (ks.map rxc))), (25, I .i64 ks.length), (26, I .i64 (q : Nat))], [(2, .box ((rx5 op mn mx rs ks).map .d)), (1000, .row 9 1 (((ks.take q).map fun k => txE (fm k op)).map sB))], H⟩) (fun q => q ≤ ks.length ∧ wrtL (ks.take q) = true) (fun q => ks.length - q) ?_ 0 ⟨Nat.zero_le _, rfl⟩) rfl rfl
  rintro i ⟨i1, i2⟩ ihl
  by_cases hlt : i < ks.length
  · obtain ⟨k, hk⟩ : ∃ k, ks[i]? = some k := ⟨_, List.getElem?_eq_getElem hlt⟩
    have hkm := List.mem_of_getElem? hk
    have hvk' := vnsL_mem hvk k hkm
    have hszk := hsub k hkm
    have hc := ih k hkm (fitL_mem hf3 k hkm) hvk' (by omega) op
    have hok := txR_ok hvk' op
    have htx := txR_tx hvk' op
    have hwt := wrtL_take hk
    rw [i2, Bool.true_and] at hwt
    have hbad := wrtL_bad hkm
    rw [txP, hok] at hc
    have htk : ((ks.take (i + 1)).map fun k => txE (fm k op)) = ((ks.take i).map fun k => txE (fm k op)) ++ [txE (fm k op)] := by rw [take_succ' hk, List.map_append]; rfl
    have hll : ((ks.take i).map fun k => txE (fm k op)).length ≤ ks.length := by rw [List.length_map, List.length_take]; omega
    cases hw : wrt k with
    | true =>
      rw [hw] at hc hwt
      rw [htx hw] at hc
      have ihl' := ihl (i + 1) ⟨by omega, hwt⟩ (by omega)
      rw [htk] at ihl'
      clear htk hok htx hbad
      generalize (ks.take i).map (fun k => txE (fm k op)) = Q at *
      obtain ⟨op', mn', mx', rs', ks'⟩ := k
      have hix := idx_rx hk
      rw [Drx_mk] at hc
      generalize txE (fm (.mk op' mn' mx' rs' ks') op) = T at *
      repeat' (first | (refine k_op1 ?_; (first | refine o_sv rfl (by decide) ?_ | (refine k_load ?_; (first | refine o_val (v_load rfl rfl rfl rfl) rfl rfl (by decide) ?_ | refine o_val (v_loadea rfl rfl) rfl rfl (by decide) ?_ | refine o_val (v_loadp rfl rfl rfl rfl) rfl rfl (by decide) ?_)) | (refine k_field ?_; (refine o_val (v_field rfl rfl) rfl rfl (by decide) ?_)) | (refine k_index ?_; (refine o_val (v_index (ys := ks.map rxc) rfl (by omega) hix rfl) rfl rfl (by decide) ?_)) | (refine k_bin ?_; (refine o_val (v_add (wi64 (by omega) (by omega))) rfl rfl (by decide) ?_)) | (refine k_blt ?_; (refine o_app1 (g := sB) rfl rfl T rfl rfl rfl rfl rfl rfl rfl (by decide) (by omega) ?_)) | (refine k_call ?_; (refine o_fn hc rfl (by decide) ?_)) | (refine k_store ?_; (refine o_store0 rfl rfl rfl rfl rfl rfl ?_)) | (refine k_alloc ?_; (refine o_does (d_alloc rfl rfl (by decide)) ?_)) | (refine k_lit ?_; (refine o_lit rfl rfl rfl rfl rfl rfl rfl rfl (by decide) ?_)))) | (refine k_ops ?_; (first | refine o_go (by first | exact .inl rfl | exact .inr ⟨_, _, _, rfl, rfl, rfl⟩) ?_ | refine o_nil ?_)) | (refine k_run ?_; (first | refine r_seq ?_ | refine r_region ?_ | refine r_false rfl ?_ | refine r_skip ?_ | refine r_block ?_ | refine r_tr ?_ | refine r_inBlock ?_ | refine r_if rfl (fun _ => ?_) (fun _ => ?_) | refine r_exit rfl ?_)) | (refine k_tr ?_; (refine t_sv rfl (by first | exact rfl | exact ⟨_, rfl, rfl, rfl⟩) (by decide) ?_)))
      all_goals try (exfalso; omega)
      all_goals refine r_ren 42 1000 rfl rfl ?_
      all_goals exact r_less ihl' rfl rfl
    | false =>
      rw [hw] at hc
      rw [if_neg (by rw [hbad hw]; decide)]
      generalize (txR k op).1 = T at *
      obtain ⟨op', mn', mx', rs', ks'⟩ := k
      have hix := idx_rx hk
      rw [Drx_mk] at hc
      repeat' (first | (refine k_op1 ?_; (first | refine o_sv rfl (by decide) ?_ | (refine k_load ?_; (first | refine o_val (v_load rfl rfl rfl rfl) rfl rfl (by decide) ?_ | refine o_val (v_loadea rfl rfl) rfl rfl (by decide) ?_ | refine o_val (v_loadp rfl rfl rfl rfl) rfl rfl (by decide) ?_)) | (refine k_field ?_; (refine o_val (v_field rfl rfl) rfl rfl (by decide) ?_)) | (refine k_index ?_; (refine o_val (v_index (ys := ks.map rxc) rfl (by omega) hix rfl) rfl rfl (by decide) ?_)) | (refine k_call ?_; (refine o_fn hc rfl (by decide) ?_)) | (refine k_store ?_; (refine o_store0 rfl rfl rfl rfl rfl rfl ?_)) | (refine k_alloc ?_; (refine o_does (d_alloc rfl rfl (by decide)) ?_)))) | (refine k_ops ?_; (first | refine o_go (by first | exact .inl rfl | exact .inr ⟨_, _, _, rfl, rfl, rfl⟩) ?_ | refine o_nil ?_)) | (refine k_run ?_; (first | refine r_seq ?_ | refine r_region ?_ | refine r_true rfl ?_ | refine r_skip ?_ | refine r_block ?_ | refine r_tr ?_ | refine r_if rfl (fun _ => ?_) (fun _ => ?_) | refine r_exit rfl ?_)) | (refine k_tr ?_; (refine t_sv rfl (by first | exact rfl | exact ⟨_, rfl, rfl, rfl⟩) (by decide) ?_)))
      all_goals try (exfalso; omega)
      all_goals exact r_ret Tryd.func39 _ (res_two rfl rfl rfl) ⟨rfl, rfl⟩
  · obtain rfl : i = ks.length := by omega
    rw [List.take_length] at *
    rw [if_pos i2]
    clear ihl
    repeat' (first | (refine k_op1 ?_; (refine o_sv rfl (by decide) ?_)) | (refine k_ops ?_; (first | refine o_go (by first | exact .inl rfl | exact .inr ⟨_, _, _, rfl, rfl, rfl⟩) ?_ | refine o_nil ?_)) | (refine k_run ?_; (first | (refine r_stop (A := .region 12 _ _) ?_) | refine r_seq ?_ | refine r_region ?_ | refine r_skip ?_ | refine r_block ?_ | refine r_if rfl (fun _ => ?_) (fun _ => ?_) | refine r_exit rfl ?_)))
    all_goals try (exfalso; omega)
    refine stop_go ?_
    refine r_freeze 1000 rfl ?_
    obtain ⟨lC, lU, lV, l1⟩ := fm_len.2 ks hvk
    have sa : ∀ a b : ByteArray, (a ++ b).size = a.size + b.size := fun a b => by simp
    have z1 : (⟨#[40]⟩ : ByteArray).size = 1 := rfl
    have z2 : (⟨#[41]⟩ : ByteArray).size = 1 := rfl
    have hbr : ∀ l : List Int, txE (brk true l) = ((⟨#[40]⟩ : ByteArray) ++ txE l) ++ ⟨#[41]⟩ := fun l => by
      rw [brk, if_pos rfl, txE_app, txE_app]; rfl
    have hbf : ∀ l : List Int, txE (brk false l) = txE l := fun l => by rw [brk, if_neg (by decide)]
    rcases vn_cases hvn with ⟨h, _⟩ | ⟨rfl, rfl, rfl, rfl, _⟩ | ⟨rfl, rfl, rfl, rfl, _⟩ | ⟨rfl, rfl, h4, h5, h6, h7⟩
    · exact absurd h o1
    · have hz := (txE_size (fmC ks)).2
      have hj := join_c (ks.map fun k => txE (fm k 2)) ⟨#[]⟩ (by rw [List.length_map]; omega) (by rw [jn_C]; omega)
      rw [jn_C] at hj
      have hfm : fm (.mk 2 0 0 [] ks) w = brk (decide (w = 4)) (fmC ks) := by rw [fm, if_neg (by decide), if_pos rfl]
      rw [hfm]
      clear hfm hlen
      by_cases hw4 : w = 4
      · rw [decide_eq_true hw4, hbr]
        repeat' (first | (refine k_op1 ?_; (first | refine o_sv rfl (by decide) ?_ | (refine k_load ?_; (refine o_val (v_load rfl rfl rfl rfl) rfl rfl (by decide) ?_)) | (refine k_field ?_; (refine o_val (v_field rfl rfl) rfl rfl (by decide) ?_)) | (refine k_call ?_; (refine o_fn hj rfl (by decide) ?_)) | refine o_val (v_sadd (by (try simp only [sa]); omega)) rfl rfl (by decide) ?_)) | (refine k_ops ?_; (first | refine o_go (by first | exact .inl rfl | exact .inr ⟨_, _, _, rfl, rfl, rfl⟩) ?_ | refine o_nil ?_)) | (refine k_run ?_; (first | refine r_seq ?_ | refine r_region ?_ | refine r_true rfl ?_ | refine r_skip ?_ | refine r_block ?_ | refine r_inBlock ?_ | refine r_if rfl (fun _ => ?_) (fun _ => ?_))))
        all_goals try (exfalso; omega)
        all_goals exact r_ret Tryd.func39 _ (res_two rfl rfl rfl) ⟨rfl, rfl⟩
      · rw [decide_eq_false hw4, hbf]
        repeat' (first | (refine k_op1 ?_; (first | refine o_sv rfl (by decide) ?_ | (refine k_load ?_; (refine o_val (v_load rfl rfl rfl rfl) rfl rfl (by decide) ?_)) | (refine k_field ?_; (refine o_val (v_field rfl rfl) rfl rfl (by decide) ?_)) | (refine k_call ?_; (refine o_fn hj rfl (by decide) ?_)) | refine o_val (v_sadd (by (try simp only [sa]); omega)) rfl rfl (by decide) ?_)) | (refine k_ops ?_; (first | refine o_go (by first | exact .inl rfl | exact .inr ⟨_, _, _, rfl, rfl, rfl⟩) ?_ | refine o_nil ?_)) | (refine k_run ?_; (first | refine r_seq ?_ | refine r_region ?_ | refine r_true rfl ?_ | refine r_skip ?_ | refine r_block ?_ | refine r_inBlock ?_ | refine r_if rfl (fun _ => ?_) (fun _ => ?_))))
        all_goals try (exfalso; omega)
        all_goals exact r_ret Tryd.func39 _ (res_two rfl rfl rfl) ⟨rfl, rfl⟩
    · have hz := (txE_size (fmU ks)).2
      have hj := join_c (ks.map fun k => txE (fm k 3)) ⟨#[124]⟩ (by rw [List.length_map]; omega) (by rw [jn_U]; omega)
      rw [jn_U] at hj
      have hfm : fm (.mk 3 0 0 [] ks) w = brk (decide (w = 4) || decide (w = 2)) (fmU ks) := by rw [fm, if_neg (by decide), if_neg (by decide), if_pos rfl]
      rw [hfm]
      clear hfm hlen
      by_cases hw4 : w = 4
      · rw [decide_eq_true hw4, Bool.true_or, hbr]
        repeat' (first | (refine k_op1 ?_; (first | refine o_sv rfl (by decide) ?_ | (refine k_load ?_; (refine o_val (v_load rfl rfl rfl rfl) rfl rfl (by decide) ?_)) | (refine k_field ?_; (refine o_val (v_field rfl rfl) rfl rfl (by decide) ?_)) | (refine k_call ?_; (refine o_fn hj rfl (by decide) ?_)) | refine o_val (v_sadd (by (try simp only [sa]); omega)) rfl rfl (by decide) ?_)) | (refine k_ops ?_; (first | refine o_go (by first | exact .inl rfl | exact .inr ⟨_, _, _, rfl, rfl, rfl⟩) ?_ | refine o_nil ?_ | refine o_no rfl rfl (by decide) ?_ | refine o_casep rfl rfl (fun _ => ?_) (fun _ => ?_))) | (refine k_run ?_; (first | refine r_seq ?_ | refine r_region ?_ | refine r_true rfl ?_ | refine r_false rfl ?_ | refine r_skip ?_ | refine r_block ?_ | refine r_inBlock ?_ | refine r_if rfl (fun _ => ?_) (fun _ => ?_))))
        all_goals try (exfalso; omega)
        all_goals exact r_ret Tryd.func39 _ (res_two rfl rfl rfl) ⟨rfl, rfl⟩
      · rw [decide_eq_false hw4, Bool.false_or]
        by_cases hw2 : w = 2
        · rw [decide_eq_true hw2, hbr]
          repeat' (first | (refine k_op1 ?_; (first | refine o_sv rfl (by decide) ?_ | (refine k_load ?_; (refine o_val (v_load rfl rfl rfl rfl) rfl rfl (by decide) ?_)) | (refine k_field ?_; (refine o_val (v_field rfl rfl) rfl rfl (by decide) ?_)) | (refine k_call ?_; (refine o_fn hj rfl (by decide) ?_)) | refine o_val (v_sadd (by (try simp only [sa]); omega)) rfl rfl (by decide) ?_)) | (refine k_ops ?_; (first | refine o_go (by first | exact .inl rfl | exact .inr ⟨_, _, _, rfl, rfl, rfl⟩) ?_ | refine o_nil ?_ | refine o_no rfl rfl (by decide) ?_ | refine o_casep rfl rfl (fun _ => ?_) (fun _ => ?_))) | (refine k_run ?_; (first | refine r_seq ?_ | refine r_region ?_ | refine r_true rfl ?_ | refine r_false rfl ?_ | refine r_skip ?_ | refine r_block ?_ | refine r_inBlock ?_ | refine r_if rfl (fun _ => ?_) (fun _ => ?_))))
          all_goals try (exfalso; omega)
          all_goals exact r_ret Tryd.func39 _ (res_two rfl rfl rfl) ⟨rfl, rfl⟩
        · rw [decide_eq_false hw2, hbf]
          repeat' (first | (refine k_op1 ?_; (first | refine o_sv rfl (by decide) ?_ | (refine k_load ?_; (refine o_val (v_load rfl rfl rfl rfl) rfl rfl (by decide) ?_)) | (refine k_field ?_; (refine o_val (v_field rfl rfl) rfl rfl (by decide) ?_)) | (refine k_call ?_; (refine o_fn hj rfl (by decide) ?_)) | refine o_val (v_sadd (by (try simp only [sa]); omega)) rfl rfl (by decide) ?_)) | (refine k_ops ?_; (first | refine o_go (by first | exact .inl rfl | exact .inr ⟨_, _, _, rfl, rfl, rfl⟩) ?_ | refine o_nil ?_ | refine o_no rfl rfl (by decide) ?_ | refine o_casep rfl rfl (fun _ => ?_) (fun _ => ?_))) | (refine k_run ?_; (first | refine r_seq ?_ | refine r_region ?_ | refine r_true rfl ?_ | refine r_false rfl ?_ | refine r_skip ?_ | refine r_block ?_ | refine r_inBlock ?_ | refine r_if rfl (fun _ => ?_) (fun _ => ?_))))
          all_goals try (exfalso; omega)
          all_goals exact r_ret Tryd.func39 _ (res_two rfl rfl rfl) ⟨rfl, rfl⟩
    · obtain ⟨k, rfl⟩ : ∃ k, ks = [k] := by
        match ks, h4 with
        | [k], _ => exact ⟨k, rfl⟩
      have hct := tcount_s mn mx h5 h6 h7
      have hz1 := (txE_size (fm k 4)).2
      have hz2 := (txE_size (fcnt mn mx)).2
      have hz3 := fcnt_le mn mx
      rw [fm1] at l1
      have hfm : fm (.mk 4 mn mx [] [k]) w = brk (decide (w = 4)) (fm k 4 ++ fcnt mn mx) := by rw [fm, if_neg (by decide), if_neg (by decide), if_neg (by decide), fm1]
      have h0 : (([k] : List Rx).map fun k => txE (fm k 4))[((0 : Int)).toNat]? = some (txE (fm k 4)) := rfl
      rw [hfm]
      clear hfm hlen
      by_cases hw4 : w = 4
      · rw [decide_eq_true hw4, hbr, txE_app]
        repeat' (first | (refine k_op1 ?_; (first | refine o_sv rfl (by decide) ?_ | (refine k_load ?_; (refine o_val (v_load rfl rfl rfl rfl) rfl rfl (by decide) ?_)) | (refine k_field ?_; (refine o_val (v_field rfl rfl) rfl rfl (by decide) ?_)) | refine o_val (v_sadd (by (try simp only [sa]); omega)) rfl rfl (by decide) ?_)) | (refine k_ops ?_; (first | refine o_go (by first | exact .inl rfl | exact .inr ⟨_, _, _, rfl, rfl, rfl⟩) ?_ | refine o_nil ?_)) | (refine k_run ?_; (first | refine r_seq ?_ | refine r_region ?_ | refine r_false rfl ?_ | refine r_skip ?_ | refine r_block ?_ | refine r_tr ?_ | refine r_inBlock ?_ | refine r_if rfl (fun _ => ?_) (fun _ => ?_))) | (refine k_tr ?_; (first | (refine kt_end ?_; refine t_end mix (by kernel_rfl) ?_) | refine t_sv rfl (by first | exact rfl | exact ⟨_, rfl, rfl, rfl⟩) (by decide) ?_ | (refine kt_load ?_; (first | refine t_val (v_load rfl rfl rfl rfl) (by first | exact rfl | exact ⟨_, rfl, rfl, rfl⟩) rfl rfl (by decide) ?_ | refine t_val (v_loade rfl rfl rfl) (by first | exact rfl | exact ⟨_, rfl, rfl, rfl⟩) rfl rfl (by decide) ?_)) | (refine kt_field ?_; (refine t_val (v_field rfl rfl) (by first | exact rfl | exact ⟨_, rfl, rfl, rfl⟩) rfl rfl (by decide) ?_)) | (refine kt_index ?_; (refine t_val (v_index (ys := (([k] : List Rx).map fun k => txE (fm k 4)).map sB) rfl (by omega) (idxi h0) rfl) (by first | exact rfl | exact ⟨_, rfl, rfl, rfl⟩) rfl rfl (by decide) ?_)) | (refine kt_call ?_; (refine t_fn hct (by first | exact rfl | exact ⟨_, rfl, rfl, rfl⟩) rfl (by decide) ?_)) | refine t_val (v_sadd (by (try simp only [sa]); omega)) (by first | exact rfl | exact ⟨_, rfl, rfl, rfl⟩) rfl rfl (by decide) ?_)))
        all_goals try (exfalso; omega)
        all_goals exact r_ret Tryd.func39 _ (res_two rfl rfl rfl) ⟨rfl, rfl⟩
      · rw [decide_eq_false hw4, hbf, txE_app]
        repeat' (first | (refine k_op1 ?_; (first | refine o_sv rfl (by decide) ?_ | (refine k_load ?_; (refine o_val (v_load rfl rfl rfl rfl) rfl rfl (by decide) ?_)) | (refine k_field ?_; (refine o_val (v_field rfl rfl) rfl rfl (by decide) ?_)) | refine o_val (v_sadd (by (try simp only [sa]); omega)) rfl rfl (by decide) ?_)) | (refine k_ops ?_; (first | refine o_go (by first | exact .inl rfl | exact .inr ⟨_, _, _, rfl, rfl, rfl⟩) ?_ | refine o_nil ?_)) | (refine k_run ?_; (first | refine r_seq ?_ | refine r_region ?_ | refine r_false rfl ?_ | refine r_skip ?_ | refine r_block ?_ | refine r_tr ?_ | refine r_inBlock ?_ | refine r_if rfl (fun _ => ?_) (fun _ => ?_))) | (refine k_tr ?_; (first | (refine kt_end ?_; refine t_end mix (by kernel_rfl) ?_) | refine t_sv rfl (by first | exact rfl | exact ⟨_, rfl, rfl, rfl⟩) (by decide) ?_ | (refine kt_load ?_; (first | refine t_val (v_load rfl rfl rfl rfl) (by first | exact rfl | exact ⟨_, rfl, rfl, rfl⟩) rfl rfl (by decide) ?_ | refine t_val (v_loade rfl rfl rfl) (by first | exact rfl | exact ⟨_, rfl, rfl, rfl⟩) rfl rfl (by decide) ?_)) | (refine kt_field ?_; (refine t_val (v_field rfl rfl) (by first | exact rfl | exact ⟨_, rfl, rfl, rfl⟩) rfl rfl (by decide) ?_)) | (refine kt_index ?_; (refine t_val (v_index (ys := (([k] : List Rx).map fun k => txE (fm k 4)).map sB) rfl (by omega) (idxi h0) rfl) (by first | exact rfl | exact ⟨_, rfl, rfl, rfl⟩) rfl rfl (by decide) ?_)) | (refine kt_call ?_; (refine t_fn hct (by first | exact rfl | exact ⟨_, rfl, rfl, rfl⟩) rfl (by decide) ?_)) | refine t_val (v_sadd (by (try simp only [sa]); omega)) (by first | exact rfl | exact ⟨_, rfl, rfl, rfl⟩) rfl rfl (by decide) ?_)))
        all_goals try (exfalso; omega)
        all_goals exact r_ret Tryd.func39 _ (res_two rfl rfl rfl) ⟨rfl, rfl⟩
end Go.Proofs.YtjmbjgecfpggdaaDoor
