/- A part of the proof: G34, G35, G36, G37. -/
import Derived.Test.YtjmbjgecfpggdaaDoorRv
import Derived.Test.YtjmbjgecfpggdaaDoorRw
import Derived.Test.YtjmbjgecfpggdaaDoorRc
import Derived.Lib.LaidU8
import Derived.Test.YtjmbjgecfpggdaaDoorRows
import Derived.OpenShut
import Derived.LaidMore
import Derived.ProofKit
set_option linter.all false
set_option linter.unusedVariables false
set_option linter.unusedSimpArgs false
namespace Go.Proofs.YtjmbjgecfpggdaaDoor
open Go.Ab Go.Rx
set_option maxHeartbeats 20000000
set_option maxRecDepth 100000
set_option linter.unusedVariables false
set_option linter.unusedSimpArgs false
set_option linter.unusedSectionVars false
attribute [local irreducible] Run Ops Op1 Does Val Tr PureF Eff1 NF Rel EffV EffM EffN
mutual
/-- whether an expression is larger than the room, and the room that is left -/
def lg : Rx → Int → Bool × Int
  | .mk _ _ _ rs ks, r => if r - (1 + (rs.length : Int)) < 0 then (true, r - (1 + (rs.length : Int))) else lgL ks (r - (1 + (rs.length : Int)))
def lgL : List Rx → Int → Bool × Int
  | [], r => (false, r)
  | k :: ks, r => if (lg k r).1 = true then (true, (lg k r).2) else lgL ks (lg k r).2
end
theorem lg_sz : (∀ (e : Rx) (r : Int), (lg e r).1 = false → 0 ≤ (lg e r).2 ∧ (lg e r).2 + sz e ≤ r) ∧ ∀ (l : List Rx) (r : Int), 0 ≤ r → (lgL l r).1 = false → 0 ≤ (lgL l r).2 ∧ (lgL l r).2 + szL l ≤ r := by
  refine Rx.ind (fun op mn mx rs ks ih r h => ?_) (fun r h0 _ => by rw [lgL, szL]; simp only; omega) (fun k ks hk ih r h0 h => ?_)
  · rw [lg] at h ⊢
    by_cases hc : r - (1 + (rs.length : Int)) < 0
    · rw [if_pos hc] at h; cases h
    · rw [if_neg hc] at h ⊢
      have := ih _ (by omega) h
      rw [sz]; omega
  · rw [lgL] at h ⊢
    cases hl : (lg k r).1 with
    | true => rw [if_pos hl] at h; cases h
    | false =>
      rw [hl, if_neg (by decide)] at h
      rw [if_neg (by decide)]
      have h1 := hk r hl
      have h2 := ih _ h1.1 h
      rw [szL]; omega
theorem wrap_room {r n : Int} (h0 : 0 ≤ r) (h1 : r ≤ 600) (h2 : 0 ≤ n) (h3 : n ≤ 9223372036854775807) : IntKind.i64.wrap (r - IntKind.i64.wrap (1 + n)) = r - (1 + n) := by
  simp [IntKind.wrap, IntKind.bits, IntKind.signed]; omega
theorem v_subx {P : Program} {ty tx ty' : TypeId} {x y : Operand} {k : IntKind} {a b c : Int} (h : k.wrap (a - b) = c) : Val P (.binOp .sub tx x y ty') ty [(x, I k a), (y, I k b)] [] (I k c) := by
  subst h; exact v_subw
theorem large_s : ∀ (e : Rx), fit e → ∀ (r : Int), 0 ≤ r → r ≤ 600 → ∀ (e0 X : Nat), Eff1 Tryd.prog 23 [.d (Drx e), .ptr (e0, X) 0] [((e0, X), .box [I .i64 r])] [((e0, X), .box [I .i64 (lg e r).2])] (B (lg e r).1) := by
  refine Rx.ind' fun op mn mx rs ks ih hfit r h0 h6 e0 X => ?_
  obtain ⟨hf1, hf2, hf3⟩ := hfit
  rw [Drx_mk]
  refine eff_of fun H hH => ?_
  have hX : H e0 X = some (.box [I .i64 r]) := hH ((e0, X), .box [I .i64 r]) (by simp)
  have hw := wrap_room h0 h6 (Int.natCast_nonneg rs.length) (by omega)
  obtain ⟨F, hF⟩ : ∃ F, lg (.mk op mn mx rs ks) r = F := ⟨_, rfl⟩
  rw [hF]
  rw [lg] at hF
  obtain ⟨r1, hr1⟩ : ∃ r1, r - (1 + (rs.length : Int)) = r1 := ⟨_, rfl⟩
  rw [hr1] at hF hw
  refine spec_of Tryd.func23 (by kernel_rfl) rfl (by simp) ?_
  dsimp only [Tryd.f23]
  have hX1 : upd H (e0, X) (.box [I .i64 r1]) e0 X = some (.box [I .i64 r1]) := upd_same _ (e0, X) _
  by_cases hneg : r1 < 0
  · rw [if_pos hneg] at hF
    subst hF
    repeat' (first | (refine k_op1 ?_; (first | refine o_sv rfl (by decide) ?_ | (refine k_load ?_; (first | refine o_loadu rfl hX1 rfl rfl rfl rfl (by decide) ?_ | refine o_val (v_load rfl rfl rfl rfl) rfl rfl (by decide) ?_)) | (refine k_field ?_; (refine o_val (v_field rfl rfl) rfl rfl (by decide) ?_)) | (refine k_blt ?_; (refine o_val (v_lenm rfl) rfl rfl (by decide) ?_)) | (refine k_store ?_; (refine o_storeu (raw' := .box [I .i64 r1]) rfl hX rfl rfl rfl rfl rfl rfl ?_)) | (refine k_box ?_; (refine o_does (d_box_d rfl rfl (by decide)) ?_)))) | (refine k_ops ?_; (first | refine o_go (by first | exact .inl rfl | exact .inr ⟨_, _, _, rfl, rfl, rfl⟩) ?_ | refine o_nil ?_)) | (refine k_run ?_; (first | refine r_seq ?_ | refine r_region ?_ | refine r_skip ?_ | refine r_block ?_ | refine r_tr ?_ | refine r_if rfl (fun _ => ?_) (fun _ => ?_))) | (refine k_tr ?_; (first | refine t_sv rfl (by first | exact rfl | exact ⟨_, rfl, rfl, rfl⟩) (by decide) ?_ | (refine kt_load ?_; (first | refine t_loadu (by first | exact rfl | exact ⟨_, rfl, rfl, rfl⟩) rfl hX rfl rfl rfl rfl (by decide) ?_ | refine t_val (v_load rfl rfl rfl rfl) (by first | exact rfl | exact ⟨_, rfl, rfl, rfl⟩) rfl rfl (by decide) ?_)) | (refine kt_field ?_; (refine t_val (v_field rfl rfl) (by first | exact rfl | exact ⟨_, rfl, rfl, rfl⟩) rfl rfl (by decide) ?_)) | (refine kt_bin ?_; (first | refine t_val v_addw (by first | exact rfl | exact ⟨_, rfl, rfl, rfl⟩) rfl rfl (by decide) ?_ | refine t_val (v_subx hw) (by first | exact rfl | exact ⟨_, rfl, rfl, rfl⟩) rfl rfl (by decide) ?_)) | (refine kt_blt ?_; (refine t_val (v_lenm rfl) (by first | exact rfl | exact ⟨_, rfl, rfl, rfl⟩) rfl rfl (by decide) ?_)) | (refine kt_store ?_; ((refine t_tail mix (by kernel_rfl) ?_) /- t_store -/)))))
    all_goals try (exfalso; omega)
    all_goals exact r_ret Tryd.func23 _ (res_one rfl rfl) ⟨rfl, rfl⟩
  · rw [if_neg hneg] at hF
    repeat' (first | (refine k_op1 ?_; (first | refine o_sv rfl (by decide) ?_ | (refine k_load ?_; (first | refine o_loadu rfl hX1 rfl rfl rfl rfl (by decide) ?_ | refine o_val (v_load rfl rfl rfl rfl) rfl rfl (by decide) ?_)) | (refine k_field ?_; (refine o_val (v_field rfl rfl) rfl rfl (by decide) ?_)) | (refine k_blt ?_; (refine o_val (v_lenm rfl) rfl rfl (by decide) ?_)) | (refine k_store ?_; (refine o_storeu (raw' := .box [I .i64 r1]) rfl hX rfl rfl rfl rfl rfl rfl ?_)) | (refine k_box ?_; (refine o_does (d_box_d rfl rfl (by decide)) ?_)))) | (refine k_ops ?_; (first | refine o_go (by first | exact .inl rfl | exact .inr ⟨_, _, _, rfl, rfl, rfl⟩) ?_ | refine o_nil ?_)) | (refine k_run ?_; (first | refine r_seq ?_ | refine r_region ?_ | refine r_skip ?_ | refine r_block ?_ | refine r_tr ?_ | refine r_if rfl (fun _ => ?_) (fun _ => ?_))) | (refine k_tr ?_; (first | refine t_sv rfl (by first | exact rfl | exact ⟨_, rfl, rfl, rfl⟩) (by decide) ?_ | (refine kt_load ?_; (first | refine t_loadu (by first | exact rfl | exact ⟨_, rfl, rfl, rfl⟩) rfl hX rfl rfl rfl rfl (by decide) ?_ | refine t_val (v_load rfl rfl rfl rfl) (by first | exact rfl | exact ⟨_, rfl, rfl, rfl⟩) rfl rfl (by decide) ?_)) | (refine kt_field ?_; (refine t_val (v_field rfl rfl) (by first | exact rfl | exact ⟨_, rfl, rfl, rfl⟩) rfl rfl (by decide) ?_)) | (refine kt_bin ?_; (first | refine t_val v_addw (by first | exact rfl | exact ⟨_, rfl, rfl, rfl⟩) rfl rfl (by decide) ?_ | refine t_val (v_subx hw) (by first | exact rfl | exact ⟨_, rfl, rfl, rfl⟩) rfl rfl (by decide) ?_)) | (refine kt_blt ?_; (refine t_val (v_lenm rfl) (by first | exact rfl | exact ⟨_, rfl, rfl, rfl⟩) rfl rfl (by decide) ?_)) | (refine kt_store ?_; ((refine t_tail mix (by kernel_rfl) ?_) /- t_store -/)))))
    all_goals try (exfalso; omega)
    refine r_loop ?_
    refine r_less (r_inv (fun q : Nat × Int => ⟨31, [(1, .ptr (e0 + 1, X) 0), (21, .d (.slice (ks.map rxc))), (22, I .i64 ks.length), (23, I .i64 (q.1 : Nat))], [], upd H (e0, X) (.box [I .i64 q.2])⟩) (fun q => q.1 ≤ ks.length ∧ lgL (ks.drop q.1) q.2 = F ∧ 0 ≤ q.2 ∧ q.2 ≤ 600) (fun q => ks.length - q.1) ?_ (0, r1) ⟨Nat.zero_le _, hF, by simp only; omega, by simp only; omega⟩) rfl rfl
    rintro ⟨i, a⟩ ⟨i1, i2, i3, i4⟩ ihl
    simp only at i1 i2 i3 i4 ihl ⊢
    by_cases hlt : i < ks.length
    · obtain ⟨k, hk⟩ : ∃ k, ks[i]? = some k := ⟨_, List.getElem?_eq_getElem hlt⟩
      have hc := ih k (List.mem_of_getElem? hk) (fitL_mem hf3 k (List.mem_of_getElem? hk)) a i3 i4 (e0 + 1) X
      rw [drop_cons hk, lgL] at i2
      have hsz := lg_sz.1 k a
      generalize lg k a = S at *
      obtain ⟨S1, S2⟩ := S
      simp only at i2 hsz hc
      obtain ⟨op', mn', mx', rs', ks'⟩ := k
      rw [Drx_mk] at hc
      have hXa : upd H (e0, X) (.box [I .i64 a]) e0 X = some (.box [I .i64 a]) := upd_same _ (e0, X) _
      cases S1 with
      | true =>
        rw [if_pos rfl] at i2
        subst i2
        repeat' (first | (refine k_op1 ?_; (first | refine o_sv rfl (by decide) ?_ | (refine k_load ?_; (first | refine o_val (v_loadea rfl rfl) rfl rfl (by decide) ?_ | refine o_val (v_loadp rfl rfl rfl rfl) rfl rfl (by decide) ?_)) | (refine k_index ?_; (refine o_val (v_index (ys := ks.map rxc) rfl (by omega) (idx_rx hk) rfl) rfl rfl (by decide) ?_)) | (refine k_call ?_; (refine o_effu hc rfl hXa (by decide) ?_)) | (refine k_store ?_; (refine o_store0 rfl rfl rfl rfl rfl rfl ?_)) | (refine k_alloc ?_; (refine o_does (d_alloc rfl rfl (by decide)) ?_)))) | (refine k_ops ?_; (first | refine o_go (by first | exact .inl rfl | exact .inr ⟨_, _, _, rfl, rfl, rfl⟩) ?_ | refine o_nil ?_)) | (refine k_run ?_; (first | refine r_seq ?_ | refine r_region ?_ | refine r_true rfl ?_ | refine r_skip ?_ | refine r_block ?_ | refine r_if rfl (fun _ => ?_) (fun _ => ?_) | refine r_exit rfl ?_)))
        all_goals try (exfalso; omega)
        all_goals (rw [upd_upd]; exact r_ret Tryd.func23 _ (res_one rfl rfl) ⟨rfl, rfl⟩)
      | false =>
        rw [if_neg (by decide)] at i2
        have hs2 := hsz rfl
        have ihl' := ihl (i + 1, S2) ⟨by simp only; omega, i2, by simp only; omega, by simp only; omega⟩ (by simp only; omega)
        repeat' (first | (refine k_op1 ?_; (first | refine o_sv rfl (by decide) ?_ | (refine k_load ?_; (first | refine o_val (v_loadea rfl rfl) rfl rfl (by decide) ?_ | refine o_val (v_loadp rfl rfl rfl rfl) rfl rfl (by decide) ?_)) | (refine k_index ?_; (refine o_val (v_index (ys := ks.map rxc) rfl (by omega) (idx_rx hk) rfl) rfl rfl (by decide) ?_)) | (refine k_bin ?_; (refine o_val (v_add (wi64 (by omega) (by omega))) rfl rfl (by decide) ?_)) | (refine k_call ?_; (refine o_effu hc rfl hXa (by decide) ?_)) | (refine k_store ?_; (refine o_store0 rfl rfl rfl rfl rfl rfl ?_)) | (refine k_alloc ?_; (refine o_does (d_alloc rfl rfl (by decide)) ?_)))) | (refine k_ops ?_; (first | refine o_go (by first | exact .inl rfl | exact .inr ⟨_, _, _, rfl, rfl, rfl⟩) ?_ | refine o_nil ?_)) | (refine k_run ?_; (first | refine r_seq ?_ | refine r_region ?_ | refine r_false rfl ?_ | refine r_skip ?_ | refine r_block ?_ | refine r_inBlock ?_ | refine r_if rfl (fun _ => ?_) (fun _ => ?_) | refine r_exit rfl ?_)))
        all_goals try (exfalso; omega)
        all_goals (rw [upd_upd]; exact r_less ihl' rfl rfl)
    · obtain rfl : i = ks.length := by omega
      rw [List.drop_length, lgL] at i2
      subst i2
      repeat' (first | (refine k_op1 ?_; (refine o_sv rfl (by decide) ?_)) | (refine k_ops ?_; (first | refine o_go (by first | exact .inl rfl | exact .inr ⟨_, _, _, rfl, rfl, rfl⟩) ?_ | refine o_nil ?_)) | (refine k_run ?_; (first | refine r_seq ?_ | refine r_region ?_ | refine r_skip ?_ | refine r_block ?_ | refine r_if rfl (fun _ => ?_) (fun _ => ?_) | refine r_exit rfl ?_)))
      all_goals try (exfalso; omega)
      all_goals exact r_ret Tryd.func23 _ (res_one rfl rfl) ⟨rfl, rfl⟩
/-- whether one of some expressions is large -/
def bigL (l : List Rx) : Bool := l.any fun e => (lg e 600).1
theorem big_s (l : List Rx) (hf : fitL l) (hl : l.length ≤ 9223372036854775807) : PureF Tryd.prog 9 [.d (.slice (l.map rxc))] (B (bigL l)) := by
  refine pure_of fun H => ?_
  refine spec_of Tryd.func9 (by kernel_rfl) rfl (by simp) ?_
  dsimp only [Tryd.f9]
  repeat' (first | (refine k_op1 ?_; (first | refine o_sv rfl (by decide) ?_ | (refine k_blt ?_; (refine o_val (v_lenm rfl) rfl rfl (by decide) ?_)))) | (refine k_ops ?_; (first | refine o_go (by first | exact .inl rfl | exact .inr ⟨_, _, _, rfl, rfl, rfl⟩) ?_ | refine o_nil ?_)) | (refine k_run ?_; (first | refine r_seq ?_ | refine r_region ?_ | refine r_block ?_)))
  all_goals try (exfalso; omega)
  refine r_loop ?_
  refine r_less (r_inv (fun q : Nat => ⟨15, [(6, .d (.slice (l.map rxc))), (7, I .i64 l.length), (8, I .i64 (q : Nat))], [], H⟩) (fun q => q ≤ l.length ∧ bigL (l.drop q) = bigL l) (fun q => l.length - q) ?_ 0 ⟨Nat.zero_le _, rfl⟩) rfl rfl
  rintro i ⟨i1, i2⟩ ihl
  by_cases hlt : i < l.length
  · obtain ⟨k, hk⟩ : ∃ k, l[i]? = some k := ⟨_, List.getElem?_eq_getElem hlt⟩
    have hc := large_s k (fitL_mem hf k (List.mem_of_getElem? hk)) 600 (by decide) (by decide) 0 5
    rw [drop_cons hk, bigL, List.any_cons, ← bigL] at i2
    generalize lg k 600 = S at *
    obtain ⟨S1, S2⟩ := S
    simp only at i2 hc
    obtain ⟨op', mn', mx', rs', ks'⟩ := k
    rw [Drx_mk] at hc
    cases S1 with
    | true =>
      rw [Bool.true_or] at i2
      rw [← i2]
      repeat' (first | (refine k_op1 ?_; (first | refine o_sv rfl (by decide) ?_ | (refine k_load ?_; (first | refine o_val (v_loadea rfl rfl) rfl rfl (by decide) ?_ | refine o_val (v_loadp rfl rfl rfl rfl) rfl rfl (by decide) ?_)) | (refine k_index ?_; (refine o_val (v_index (ys := l.map rxc) rfl (by omega) (idx_rx hk) rfl) rfl rfl (by decide) ?_)) | (refine k_call ?_; (refine o_eff1 hc rfl rfl (by decide) ?_)) | (refine k_store ?_; (refine o_store0 rfl rfl rfl rfl rfl rfl ?_)) | (refine k_alloc ?_; (refine o_does (d_alloc rfl rfl (by decide)) ?_)))) | (refine k_ops ?_; (first | refine o_go (by first | exact .inl rfl | exact .inr ⟨_, _, _, rfl, rfl, rfl⟩) ?_ | refine o_nil ?_)) | (refine k_run ?_; (first | refine r_seq ?_ | refine r_region ?_ | refine r_true rfl ?_ | refine r_skip ?_ | refine r_block ?_ | refine r_if rfl (fun _ => ?_) (fun _ => ?_) | refine r_exit rfl ?_)))
      all_goals try (exfalso; omega)
      all_goals exact r_ret Tryd.func9 _ (res_one rfl rfl) ⟨rfl, rfl⟩
    | false =>
      rw [Bool.false_or] at i2
      repeat' (first | (refine k_op1 ?_; (first | refine o_sv rfl (by decide) ?_ | (refine k_load ?_; (first | refine o_val (v_loadea rfl rfl) rfl rfl (by decide) ?_ | refine o_val (v_loadp rfl rfl rfl rfl) rfl rfl (by decide) ?_)) | (refine k_index ?_; (refine o_val (v_index (ys := l.map rxc) rfl (by omega) (idx_rx hk) rfl) rfl rfl (by decide) ?_)) | (refine k_bin ?_; (refine o_val (v_add (wi64 (by omega) (by omega))) rfl rfl (by decide) ?_)) | (refine k_call ?_; (refine o_eff1 hc rfl rfl (by decide) ?_)) | (refine k_store ?_; (refine o_store0 rfl rfl rfl rfl rfl rfl ?_)) | (refine k_alloc ?_; (refine o_does (d_alloc rfl rfl (by decide)) ?_)))) | (refine k_ops ?_; (first | refine o_go (by first | exact .inl rfl | exact .inr ⟨_, _, _, rfl, rfl, rfl⟩) ?_ | refine o_nil ?_)) | (refine k_run ?_; (first | refine r_seq ?_ | refine r_region ?_ | refine r_false rfl ?_ | refine r_skip ?_ | refine r_block ?_ | refine r_inBlock ?_ | refine r_if rfl (fun _ => ?_) (fun _ => ?_) | refine r_exit rfl ?_)))
      all_goals try (exfalso; omega)
      all_goals exact r_less (ihl (i + 1) ⟨by omega, i2⟩ (by omega)) rfl rfl
  · obtain rfl : i = l.length := by omega
    rw [List.drop_length] at i2
    rw [← i2]
    repeat' (first | (refine k_op1 ?_; (refine o_sv rfl (by decide) ?_)) | (refine k_ops ?_; (first | refine o_go (by first | exact .inl rfl | exact .inr ⟨_, _, _, rfl, rfl, rfl⟩) ?_ | refine o_nil ?_)) | (refine k_run ?_; (first | refine r_seq ?_ | refine r_region ?_ | refine r_skip ?_ | refine r_block ?_ | refine r_if rfl (fun _ => ?_) (fun _ => ?_) | refine r_exit rfl ?_)))
    all_goals try (exfalso; omega)
    all_goals exact r_ret Tryd.func9 _ (res_one rfl rfl) ⟨rfl, rfl⟩
end Go.Proofs.YtjmbjgecfpggdaaDoor
namespace Go.Proofs.YtjmbjgecfpggdaaDoor
open Go.Ab Go.Rx
set_option maxHeartbeats 20000000
set_option maxRecDepth 100000
set_option linter.unusedVariables false
set_option linter.unusedSimpArgs false
set_option linter.unusedSectionVars false
attribute [local irreducible] Run Ops Op1 Does Val Tr PureF Eff1 NF Rel EffV EffM EffN
theorem rvalidate_s (e : Rx) (hf : fit e) : PureF Tryd.prog 11 [.d (Drx e)] (I .i64 (val e)) := by
  refine pure_of fun H => ?_
  have hsh := shape_s e hf 1 (by decide) (by decide)
  have hvs := val_sh e
  have hss := sh_spec.1 e 1 (by decide)
  have hpo := rpositions_s e hf
  obtain ⟨V, hV⟩ : ∃ V, val e = V := ⟨_, rfl⟩
  rw [hV] at hvs ⊢
  have hvn : ¬ (200 < (sh e 1).1 ∨ 40 < (sh e 1).2.1) → (sh e 1).2.2 = true → vns e = true := fun h1 h2 => by
    by_cases hc : (1 : Int) + dp e ≤ 41 ∧ sz e ≤ 200
    · rw [if_pos hc] at hss; rw [hss] at h2; exact h2
    · rw [if_neg hc] at hss; exact absurd hss h1
  generalize sh e 1 = S at *
  obtain ⟨n, c, b⟩ := S
  simp only at hvs hvn
  by_cases h1 : 200 < n ∨ 40 < c
  · rw [if_pos h1] at hvs
    subst hvs
    obtain ⟨op, mn, mx, rs, ks⟩ := e
    rw [Drx_mk] at hsh ⊢
    dsimp only [shv] at hsh
    refine spec_of Tryd.func11 (by kernel_rfl) rfl (by simp) ?_
    dsimp only [Tryd.f11]
    repeat' (first | (refine k_op1 ?_; (first | refine o_sv rfl (by decide) ?_ | (refine k_load ?_; (refine o_val (v_loada rfl rfl rfl) rfl rfl (by decide) ?_)) | (refine k_call ?_; (refine o_fn hsh rfl (by decide) ?_)) | (refine k_box ?_; (refine o_does (d_box_d rfl rfl (by decide)) ?_)))) | (refine k_ops ?_; (first | refine o_go (by first | exact .inl rfl | exact .inr ⟨_, _, _, rfl, rfl, rfl⟩) ?_ | refine o_nil ?_ | refine o_no rfl rfl (by decide) ?_ | refine o_casep rfl rfl (fun _ => ?_) (fun _ => ?_))) | (refine k_run ?_; (first | refine r_seq ?_ | refine r_region ?_ | refine r_true rfl ?_ | refine r_block ?_ | refine r_if rfl (fun _ => ?_) (fun _ => ?_) | refine r_cond rfl (fun _ => ?_) (fun _ => ?_))))
    all_goals try (exfalso; omega)
    all_goals exact r_ret Tryd.func11 _ (res_one rfl rfl) ⟨rfl, rfl⟩
  · rw [if_neg h1] at hvs
    cases b with
    | false =>
      rw [if_pos rfl] at hvs
      subst hvs
      obtain ⟨op, mn, mx, rs, ks⟩ := e
      rw [Drx_mk] at hsh ⊢
      dsimp only [shv] at hsh
      refine spec_of Tryd.func11 (by kernel_rfl) rfl (by simp) ?_
      dsimp only [Tryd.f11]
      repeat' (first | (refine k_op1 ?_; (first | refine o_sv rfl (by decide) ?_ | (refine k_load ?_; (refine o_val (v_loada rfl rfl rfl) rfl rfl (by decide) ?_)) | (refine k_call ?_; (refine o_fn hsh rfl (by decide) ?_)) | (refine k_box ?_; (refine o_does (d_box_d rfl rfl (by decide)) ?_)))) | (refine k_ops ?_; (first | refine o_go (by first | exact .inl rfl | exact .inr ⟨_, _, _, rfl, rfl, rfl⟩) ?_ | refine o_nil ?_ | refine o_no rfl rfl (by decide) ?_ | refine o_casep rfl rfl (fun _ => ?_) (fun _ => ?_))) | (refine k_run ?_; (first | refine r_seq ?_ | refine r_region ?_ | refine r_true rfl ?_ | refine r_block ?_ | refine r_if rfl (fun _ => ?_) (fun _ => ?_))))
      all_goals try (exfalso; omega)
      all_goals exact r_ret Tryd.func11 _ (res_one rfl rfl) ⟨rfl, rfl⟩
    | true =>
      rw [if_neg (by decide)] at hvs
      have hpo := hpo (hvn h1 rfl)
      generalize ps 1048576 e = P at *
      obtain ⟨op, mn, mx, rs, ks⟩ := e
      rw [Drx_mk] at hsh hpo ⊢
      dsimp only [shv] at hsh
      subst hvs
      refine spec_of Tryd.func11 (by kernel_rfl) rfl (by simp) ?_
      dsimp only [Tryd.f11]
      by_cases hp : 64 < P
      · rw [if_pos hp]
        repeat' (first | (refine k_op1 ?_; (first | refine o_sv rfl (by decide) ?_ | (refine k_load ?_; (refine o_val (v_loada rfl rfl rfl) rfl rfl (by decide) ?_)) | (refine k_call ?_; (first | refine o_fn hsh rfl (by decide) ?_ | refine o_fn hpo rfl (by decide) ?_)) | (refine k_box ?_; (refine o_does (d_box_d rfl rfl (by decide)) ?_)))) | (refine k_ops ?_; (first | refine o_go (by first | exact .inl rfl | exact .inr ⟨_, _, _, rfl, rfl, rfl⟩) ?_ | refine o_nil ?_ | refine o_no rfl rfl (by decide) ?_ | refine o_casep rfl rfl (fun _ => ?_) (fun _ => ?_))) | (refine k_run ?_; (first | refine r_seq ?_ | refine r_region ?_ | refine r_true rfl ?_ | refine r_false rfl ?_ | refine r_skip ?_ | refine r_block ?_ | refine r_inBlock ?_ | refine r_if rfl (fun _ => ?_) (fun _ => ?_))))
        all_goals try (exfalso; omega)
        all_goals exact r_ret Tryd.func11 _ (res_one rfl rfl) ⟨rfl, rfl⟩
      · rw [if_neg hp]
        repeat' (first | (refine k_op1 ?_; (first | refine o_sv rfl (by decide) ?_ | (refine k_load ?_; (refine o_val (v_loada rfl rfl rfl) rfl rfl (by decide) ?_)) | (refine k_call ?_; (first | refine o_fn hsh rfl (by decide) ?_ | refine o_fn hpo rfl (by decide) ?_)) | (refine k_box ?_; (refine o_does (d_box_d rfl rfl (by decide)) ?_)))) | (refine k_ops ?_; (first | refine o_go (by first | exact .inl rfl | exact .inr ⟨_, _, _, rfl, rfl, rfl⟩) ?_ | refine o_nil ?_ | refine o_no rfl rfl (by decide) ?_ | refine o_casep rfl rfl (fun _ => ?_) (fun _ => ?_))) | (refine k_run ?_; (first | refine r_seq ?_ | refine r_region ?_ | refine r_true rfl ?_ | refine r_false rfl ?_ | refine r_skip ?_ | refine r_block ?_ | refine r_inBlock ?_ | refine r_if rfl (fun _ => ?_) (fun _ => ?_))))
        all_goals try (exfalso; omega)
        all_goals exact r_ret Tryd.func11 _ (res_one rfl rfl) ⟨rfl, rfl⟩
end Go.Proofs.YtjmbjgecfpggdaaDoor
namespace Go.Proofs.YtjmbjgecfpggdaaDoor
open Go.Ab Go.Rx Go.ChangeShapes Go.WideShapes Go.ChangeAt Go.RowKit
set_option maxHeartbeats 20000000
set_option maxRecDepth 100000
set_option linter.unusedVariables false
set_option linter.unusedSimpArgs false
set_option linter.unusedSectionVars false
theorem ft25 : fieldTypes Tryd.prog 25 = some [3, 3, 3, 22, 23] := by kernel_rfl
theorem un23 : Tryd.prog.underlying 23 = some (.slice 25) := by kernel_rfl
theorem sh_rg {ds : List D} (h : ShL Tryd.prog [21, 21] ds) : ∃ a : Rg, ds = rgc a := by
  obtain ⟨a, _, rfl, h1, b, _, rfl, h2, rfl⟩ := h
  obtain ⟨x, rfl, _⟩ := h1.inv_int (k := .i32) (by kernel_rfl)
  obtain ⟨y, rfl, _⟩ := h2.inv_int (k := .i32) (by kernel_rfl)
  exact ⟨(x, y), rfl⟩
theorem sh_rs {ds : List D} (h : Sh Tryd.prog 22 ds) : ∃ l : List Rg, ds = [rgs l] ∧ l.length ≤ 9223372036854775807 := by
  obtain ⟨l, rfl, hl, _⟩ := h.inv_list (e := 71) rgc (fun _ => True) (by kernel_rfl) fun x hx => by
    obtain ⟨a, rfl⟩ := sh_rg (hx.inv_fields (ts := [21, 21]) (by kernel_rfl))
    exact ⟨a, rfl, trivial⟩
  exact ⟨l, rfl, hl⟩
theorem rx_list : ∀ (xs : List (List D)), (∀ x ∈ xs, ∃ e, x = rxc e ∧ fit e) → ∃ l : List Rx, xs = l.map rxc ∧ fitL l
  | [], _ => ⟨[], rfl, by rw [fitL]; trivial⟩
  | x :: xs, h => by
    obtain ⟨e, rfl, he⟩ := h x (by simp)
    obtain ⟨l, rfl, hl⟩ := rx_list xs fun y hy => h y (by simp [hy])
    exact ⟨e :: l, rfl, by rw [fitL]; exact ⟨he, hl⟩⟩
theorem sh_rx {t : TypeId} {ds : List D} (h : Sh Tryd.prog t ds) : (t = 25 → ∃ e, ds = rxc e ∧ fit e) ∧ (t = 23 → ∃ l : List Rx, ds = [.slice (l.map rxc)] ∧ fitL l ∧ l.length ≤ 9223372036854775807) := by
  obtain ⟨fs25, u25, m25⟩ := fieldTypes_some ft25
  have u23 := un23
  induction h with
  | int t k z hu h1 h2 =>
    constructor
    · rintro rfl; rw [u25] at hu; simp at hu
    · rintro rfl; rw [u23] at hu; simp at hu
  | bool t b hu =>
    constructor
    · rintro rfl; rw [u25] at hu; simp at hu
    · rintro rfl; rw [u23] at hu; simp at hu
  | str t s hu hs =>
    constructor
    · rintro rfl; rw [u25] at hu; simp at hu
    · rintro rfl; rw [u23] at hu; simp at hu
  | slice t e xs hu hl hx ih =>
    constructor
    · rintro rfl; rw [u25] at hu; simp at hu
    · rintro rfl
      rw [u23] at hu
      simp only [Option.some.injEq, TypeDesc.slice.injEq] at hu
      subst hu
      obtain ⟨l, rfl, hf⟩ := rx_list xs fun x hxx => (ih x hxx).1 rfl
      refine ⟨l, rfl, hf, ?_⟩
      rw [List.length_map] at hl
      simp only [maxLen] at hl
      omega
  | struct t fs parts hu hl hp ih =>
    constructor
    · rintro rfl
      rw [u25] at hu
      simp only [Option.some.injEq, TypeDesc.struct.injEq] at hu
      subst hu
      simp only [] at m25
      match fs, m25, hl, hp, ih with
      | [f0, f1, f2, f3, f4], m25, hl, hp, ih =>
        simp only [List.map_cons, List.map_nil, List.cons.injEq, and_true] at m25
        obtain ⟨e0, e1, e2, e3, e4⟩ := m25
        match parts, hl, hp, ih with
        | [p0, p1, p2, p3, p4], _, hp, ih =>
          have q0 := hp 0 f0 p0 rfl rfl
          have q1 := hp 1 f1 p1 rfl rfl
          have q2 := hp 2 f2 p2 rfl rfl
          have q3 := hp 3 f3 p3 rfl rfl
          have q4 := (ih 4 f4 p4 rfl rfl).2 e4
          rw [e0] at q0
          rw [e1] at q1
          rw [e2] at q2
          rw [e3] at q3
          obtain ⟨x0, rfl, _⟩ := q0.inv_int (k := .i64) (by kernel_rfl)
          obtain ⟨x1, rfl, _⟩ := q1.inv_int (k := .i64) (by kernel_rfl)
          obtain ⟨x2, rfl, _⟩ := q2.inv_int (k := .i64) (by kernel_rfl)
          obtain ⟨rs, rfl, hrs⟩ := sh_rs q3
          obtain ⟨ks, rfl, hks, hkl⟩ := q4
          refine ⟨.mk x0 x1 x2 rs ks, by rw [rxc_mk]; rfl, ?_⟩
          rw [fit]
          exact ⟨hrs, hkl, hks⟩
    · rintro rfl; rw [u23] at hu; simp at hu
abbrev tabOwn : Nat → Prop := fun g => g = 0 ∨ g = 1
theorem in_rx {H : Type} {enc : TypeId × Value → H} {W : World} {v : Value} {d : DataW H} {p : List MemPlace} {r : Reach} {b0 : Nat} (hsep : ∀ g o v, tabOwn g → W.cell? ⟨g, o, none⟩ = some v → ∃ z, v = .int .u8 z) (hval : Value.okWide Tryd.prog W r b0 25 v)
    (h : DataW.Trod enc Tryd.prog W 0 (fun _ => true) true 25 v d p) : ∃ e : Rx, fit e ∧ DR W tabOwn (Drx e) v := by
  obtain ⟨ds, h1, h2, _⟩ := in_dataT hsep (G := [25, 3, 22, 71, 21, 23]) (by kernel_rfl) (by kernel_rfl) (by decide) hval h
  obtain ⟨fs, u25, _⟩ := fieldTypes_some ft25
  obtain ⟨e, rfl, he⟩ := (sh_rx h1).1 rfl
  exact ⟨e, he, h2 ⟨fs, u25⟩⟩
end Go.Proofs.YtjmbjgecfpggdaaDoor
namespace Go.Proofs.YtjmbjgecfpggdaaDoor
open Go.Ab Go.Rx Go.ChangeShapes Go.WideShapes Go.ChangeAt Go.RowKit Go.Lib
set_option maxHeartbeats 20000000
set_option maxRecDepth 100000
set_option linter.unusedVariables false
set_option linter.unusedSimpArgs false
set_option linter.unusedSectionVars false
abbrev laidL : List (String × DataW Unit) := [("unicode/utf8.acceptRanges", Rows.laid_unicode_utf8_acceptRanges), ("unicode/utf8.first", Rows.laid_unicode_utf8_first)]
theorem acc_eq : (Rows.laid_unicode_utf8_acceptRanges : DataW Unit) = acceptData := by kernel_rfl
theorem first_eq : Rows.laid_unicode_utf8_first = firstData := by kernel_rfl
theorem u8extra : U8Extra Tryd.prog lays260_ren := ⟨by kernel_rfl, by kernel_rfl, by kernel_rfl, by kernel_rfl, by kernel_rfl, by kernel_rfl, by kernel_rfl⟩
theorem array_len {H : Type} {enc : TypeId × Value → H} {P : Program} {w : World} {base : Nat} {sp : Nat → Bool} {held : Bool} {fuel : Nat} {t e : TypeId} {n : Nat} {cs : List Value} {ds : List (DataW H)} {p : List MemPlace} (ht : P.underlying t = some (.array n e))
    (h : DataW.trod enc P w base sp held fuel t cs = some (.agg ds, p)) : cs.length = P.cellsOf t ∨ cs.length = n * P.cellsOf e := by
  cases fuel with
  | zero => simp [DataW.trod] at h
  | succ fuel =>
    simp only [DataW.trod, ht] at h
    split at h
    · rename_i hc
      first
        | exact .inl (by simpa using hc)
        | exact .inr (by simpa using hc)
    · cases h
structure TabW (W : World) : Prop where
  u : Lib.Utf8Tabs 0 1 W
  sep : ∀ g o v, tabOwn g → W.cell? ⟨g, o, none⟩ = some v → ∃ z, v = .int .u8 z
  e0 : ∃ o, W.heap[0]? = some o ∧ ∀ x, o ≠ .deferred x
  e1 : ∃ o, W.heap[1]? = some o ∧ ∀ x, o ≠ .deferred x
theorem var_heap {P : Program} {w : World} {n : String} {g : Nat} {cs : Array Value} (hg : P.globalNamed n = some g) (h : w.var? P n = some cs) : ∃ o, w.heap[g]? = some o ∧ ∀ x, o ≠ .deferred x := by
  simp only [World.var?, hg, Option.bind_some] at h
  split at h
  · rename_i a b c hh
    exact ⟨_, hh, fun x e => by cases e⟩
  · cases h
theorem tabs_in {W : World} (hL : laidMetH Tryd.prog laidL W) : TabW W := by
  rw [MakeChecks.laidMetH_plain _ _ _ (by kernel_rfl)] at hL
  have h4 := Lib.laidMet.reads hL (n := "unicode/utf8.acceptRanges") (.head _)
  have h3 := Lib.laidMet.reads hL (n := "unicode/utf8.first") (.tail _ (.head _))
  rw [acc_eq] at h4
  rw [first_eq] at h3
  have hu : Lib.Utf8Tabs 0 1 W := utf8Tabs_of_reads (ρ := lays260_ren) lays260 u8extra h3 h4
  obtain ⟨g, t, cs, fuel, p, hg, hty, hvar, hd⟩ := h3
  obtain ⟨g', t', cs', fuel', p', hg', hty', hvar', hd'⟩ := h4
  obtain rfl := Option.some.inj (u8extra.n3.symm.trans hg)
  obtain rfl := Option.some.inj (u8extra.y3.symm.trans hty)
  obtain rfl := Option.some.inj (u8extra.n4.symm.trans hg')
  obtain rfl := Option.some.inj (u8extra.y4.symm.trans hty')
  refine ⟨hu, fun g o v hown hv => ?_, var_heap hg hvar, var_heap hg' hvar'⟩
  rcases hown with rfl | rfl
  · have hcs := cells_of_tab lays260.t119 lays260.t5 u8extra.c5 u8extra.c119 hd
    have := World.var?_cell hg hvar o
    change W.cell? ⟨0, o, none⟩ = _ at this
    rw [this, ← Array.getElem?_toList, hcs] at hv
    rw [List.getElem?_map] at hv
    cases hz : firstTab[o]? with
    | none => rw [hz] at hv; simp at hv
    | some z => rw [hz] at hv; simp at hv; exact ⟨z, hv.symm⟩
  · have hl := array_len lays260.t139 hd'
    have := World.var?_cell hg' hvar' o
    change W.cell? ⟨1, o, none⟩ = _ at this
    have hlt : o < cs'.size := by
      rw [this] at hv
      exact (Array.getElem?_eq_some_iff.1 hv).1
    have h32 : cs'.size = 32 := by
      rw [Array.length_toList] at hl
      have c1 : Tryd.prog.cellsOf (lays260_ren.t 139) = 32 := by kernel_rfl
      have c2 := u8extra.c138
      rcases hl with hl | hl
      · rw [hl, c1]
      · rw [hl, c2]
    obtain ⟨i, hi⟩ : ∃ i, o = 2 * i ∨ o = 2 * i + 1 := ⟨o / 2, by omega⟩
    have hui := hu.2 i (by omega)
    rcases hi with rfl | rfl
    · rw [hui.1] at hv; exact ⟨_, (Option.some.inj hv).symm⟩
    · rw [hui.2] at hv; exact ⟨_, (Option.some.inj hv).symm⟩
theorem u8_of {w w' : World} (h0 : w'.heap[0]? = w.heap[0]?) (h1 : w'.heap[1]? = w.heap[1]?) (h : Lib.Utf8Tabs 0 1 w) : Lib.Utf8Tabs 0 1 w' := by
  have c0 : ∀ o, w'.cell? ⟨0, o, none⟩ = w.cell? ⟨0, o, none⟩ := fun o => by simp only [World.cell?, h0]
  have c1 : ∀ o, w'.cell? ⟨1, o, none⟩ = w.cell? ⟨1, o, none⟩ := fun o => by simp only [World.cell?, h1]
  refine ⟨fun c hc => ?_, fun i hi => ?_⟩
  · rw [c0]; exact h.1 c hc
  · rw [c1, c1]; exact h.2 i hi
/-- the tables that a memory holds -/
theorem tab_of {W : World} (h : TabW W) : ∃ τ : Tab, W.heap[0]? = some τ.o0 ∧ W.heap[1]? = some τ.o1 ∧ (∀ x, τ.o0 ≠ .deferred x) ∧ (∀ x, τ.o1 ≠ .deferred x) := by
  obtain ⟨o0, a0, b0⟩ := h.e0
  obtain ⟨o1, a1, b1⟩ := h.e1
  exact ⟨⟨o0, o1, fun w h0 h1 => u8_of (w := W) (h0.trans a0.symm) (h1.trans a1.symm) h.u⟩, a0, a1, b0, b1⟩
end Go.Proofs.YtjmbjgecfpggdaaDoor
