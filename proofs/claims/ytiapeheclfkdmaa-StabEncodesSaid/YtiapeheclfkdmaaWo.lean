/- A law holds for every input; no condition. -/
import Derived.Test.YtiapeheclfkdmaaWn
import Derived.Test.YtiapeheclfkdmaaWi
import Derived.Test.YtiapeheclfkdmaaWh
set_option linter.all false
set_option linter.unusedVariables false
set_option linter.unusedSimpArgs false
namespace Go.Proofs.Ytiapeheclfkdmaa
open Go.Ab Go.Stab
set_option maxHeartbeats 20000000
set_option maxRecDepth 100000
set_option linter.unusedVariables false
set_option linter.unusedSimpArgs false
attribute [local irreducible] Run Ops Op1 Does Val Tr PureF Eff1 NF Rel EffV EffM
def rdR (o : Option (List Span × List Int)) : PV := match o with
  | none => .tup [.d (.slice []), B false]
  | some (l, r) => .tup [.d (spans l), B (decide (r = []) && decide (chk12 l = 0))]
theorem rdecode_s (b : List Int) (hb : b.length ≤ 100000) (hc : isB b) : PureF Try.prog 24 [.d (bytesL b)] (rdR (decT b)) := by
  refine pure_of fun H => ?_
  refine spec_of Try.func24 (by kernel_rfl) rfl (by simp) ?_
  dsimp only [Try.f24]
  by_cases h4 : b.length < 4
  · have hu := runseal_bad b h4
    rw [decT, if_neg (by omega)]
    repeat' (first | (refine k_op1 ?_; (first | refine o_sv rfl (by decide) ?_ | (refine k_call ?_; (refine o_fn hu rfl (by decide) ?_)))) | (refine k_ops ?_; (first | refine o_go (by first | exact .inl rfl | exact .inr ⟨_, _, _, rfl, rfl, rfl⟩) ?_ | refine o_nil ?_)) | (refine k_run ?_; (first | refine r_seq ?_ | refine r_region ?_ | refine r_true rfl ?_)))
    all_goals try (exfalso; omega)
    refine r_nil 2 rfl ?_
    exact r_ret Try.func24 _ (res_two rfl rfl rfl) ⟨rfl, rfl⟩
  have hu := runseal_s b hb hc (by omega)
  cases ho : okSeal b with
  | false =>
    rw [decT, if_neg (by simp [ho])]
    rw [ho] at hu
    repeat' (first | (refine k_op1 ?_; (first | refine o_sv rfl (by decide) ?_ | (refine k_call ?_; (refine o_fn hu rfl (by decide) ?_)))) | (refine k_ops ?_; (first | refine o_go (by first | exact .inl rfl | exact .inr ⟨_, _, _, rfl, rfl, rfl⟩) ?_ | refine o_nil ?_)) | (refine k_run ?_; (first | refine r_seq ?_ | refine r_region ?_ | refine r_true rfl ?_)))
    all_goals try (exfalso; omega)
    refine r_nil 2 rfl ?_
    exact r_ret Try.func24 _ (res_two rfl rfl rfl) ⟨rfl, rfl⟩
  | true =>
    rw [ho] at hu
    rw [decT, if_pos ⟨by omega, ho⟩]
    have hcl : (cut4 b).length ≤ b.length := by simp [cut4]
    have hcB := cut4_isB hc
    have ht := take_s (cut4 b) (by omega) hcB
    obtain ⟨⟨n, k, e⟩, hv⟩ : ∃ t, tk 0 0 (cut4 b) = t := ⟨_, rfl⟩
    rw [hv] at ht ⊢
    simp only at ht ⊢
    by_cases he : e = 0
    · subst he
      obtain ⟨n0, n1, hk, hp⟩ := tk_of hcB hv
      by_cases hn : 4096 < n
      · rw [if_pos (.inr hn)]
        repeat' (first | (refine k_op1 ?_; (first | refine o_sv rfl (by decide) ?_ | (refine k_call ?_; (first | refine o_fn hu rfl (by decide) ?_ | refine o_fn ht rfl (by decide) ?_)))) | (refine k_ops ?_; (first | refine o_go (by first | exact .inl rfl | exact .inr ⟨_, _, _, rfl, rfl, rfl⟩) ?_ | refine o_nil ?_)) | (refine k_run ?_; (first | refine r_seq ?_ | refine r_region ?_ | refine r_false rfl ?_ | refine r_skip ?_ | refine r_if rfl (fun _ => ?_) (fun _ => ?_))))
        all_goals try (exfalso; omega)
        refine r_nil 2 rfl ?_
        exact r_ret Try.func24 _ (res_two rfl rfl rfl) ⟨rfl, rfl⟩
      rw [if_neg (by omega)]
      have hkl : k ≤ (cut4 b).length := by
        have := congrArg List.length hp
        rw [List.length_append] at this; omega
      repeat' (first | (refine k_op1 ?_; (first | refine o_sv rfl (by decide) ?_ | (refine k_slice ?_; (refine o_val (v_slicefm (q := cut4 b) (g := fun x : Int => [Du8 x]) rfl (by omega) (by omega) (fun _ => rfl)) rfl rfl (by decide) ?_)) | (refine k_call ?_; (first | refine o_fn hu rfl (by decide) ?_ | refine o_fn ht rfl (by decide) ?_)))) | (refine k_ops ?_; (first | refine o_go (by first | exact .inl rfl | exact .inr ⟨_, _, _, rfl, rfl, rfl⟩) ?_ | refine o_nil ?_)) | (refine k_run ?_; (first | refine r_seq ?_ | refine r_region ?_ | refine r_false rfl ?_ | refine r_skip ?_ | refine r_block ?_ | refine r_if rfl (fun _ => ?_) (fun _ => ?_))))
      all_goals try (exfalso; omega)
      refine r_slot_row 9 1000 35 2 rfl rfl rfl ?_
      refine r_loop ?_
      refine r_less (r_inv (fun q : Nat × List Int × List Span => ⟨94, [(2, .d (.lit nilS)), (3, B false), (4, .d (bytesL q.2.1)), (6, I .u64 n), (9, .ref (0, 1000)), (10, I .u64 (n - q.1))], [(1000, .row 35 2 (q.2.2.map spc))], H⟩) (fun q => q.1 ≤ n.toNat ∧ q.2.1.length ≤ 100000 ∧ isB q.2.1 ∧ q.2.2.length + q.1 = n.toNat ∧ (rdS q.1 q.2.1).map (fun z => (q.2.2 ++ z.1, z.2)) = rdS n.toNat ((cut4 b).drop k.toNat)) (fun q => q.1) ?_ (n.toNat, (cut4 b).drop k.toNat, []) ⟨Nat.le_refl _, by rw [List.length_drop]; omega, fun c hc => hcB c (List.mem_of_mem_drop hc), by simp, by simp⟩) (by simp only; rw [show n - ((n.toNat : Nat) : Int) = 0 by omega]; rfl) rfl
      rintro ⟨j, p, acc⟩ ⟨i1, i2, i3, i4, i5⟩ ih
      simp only at i1 i2 i3 i4 i5 ih ⊢
      cases j with
      | zero =>
        rw [rdS] at i5
        simp only [Option.map_some, List.append_nil] at i5
        rw [← i5, rdR]
        clear ih
        have hck := rcheck12_s acc (by omega)
        by_cases hp0 : p = []
        · subst hp0
          refine r_freeze 1000 rfl ?_
          repeat' (first | (refine k_op1 ?_; (first | refine o_sv rfl (by decide) ?_ | (refine k_blt ?_; (refine o_val (v_lenm rfl) rfl rfl (by decide) ?_)) | (refine k_call ?_; (refine o_fn hck rfl (by decide) ?_)))) | (refine k_ops ?_; (first | refine o_go (by first | exact .inl rfl | exact .inr ⟨_, _, _, rfl, rfl, rfl⟩) ?_ | refine o_nil ?_)) | (refine k_run ?_; (first | refine r_seq ?_ | refine r_region ?_ | refine r_skip ?_ | refine r_block ?_ | refine r_if rfl (fun _ => ?_) (fun _ => ?_) | refine r_exit rfl ?_)))
          all_goals try (exfalso; omega)
          refine r_ret Try.func24 _ (res_two rfl rfl rfl) ⟨?_, rfl⟩
          rw [decide_eq_true rfl, Bool.true_and]; rfl
        · have hpl : 0 < p.length := List.length_pos_iff.2 hp0
          refine r_freeze 1000 rfl ?_
          repeat' (first | (refine k_op1 ?_; (first | refine o_sv rfl (by decide) ?_ | (refine k_blt ?_; (refine o_val (v_lenm rfl) rfl rfl (by decide) ?_)) | (refine k_call ?_; (refine o_fn hck rfl (by decide) ?_)))) | (refine k_ops ?_; (first | refine o_go (by first | exact .inl rfl | exact .inr ⟨_, _, _, rfl, rfl, rfl⟩) ?_ | refine o_nil ?_ | refine o_no rfl rfl (by decide) ?_ | refine o_casep rfl rfl (fun _ => ?_) (fun _ => ?_))) | (refine k_run ?_; (first | refine r_seq ?_ | refine r_region ?_ | refine r_skip ?_ | refine r_block ?_ | refine r_if rfl (fun _ => ?_) (fun _ => ?_) | refine r_exit rfl ?_)))
          all_goals try (exfalso; omega)
          refine r_ret Try.func24 _ (res_two rfl rfl rfl) ⟨?_, rfl⟩
          rw [decide_eq_false hp0, Bool.false_and]; rfl
      | succ j =>
        have t1 := take_s p i2 i3
        rw [rdS] at i5
        obtain ⟨⟨x, m, e1⟩, hv1⟩ : ∃ t, tk 0 0 p = t := ⟨_, rfl⟩
        rw [hv1] at t1 i5
        simp only at t1 i5
        by_cases he1 : e1 = 0
        · subst he1
          obtain ⟨x0, x1, hm, hp1⟩ := tk_of i3 hv1
          have hml : m ≤ p.length := by
            have := congrArg List.length hp1
            rw [List.length_append] at this; omega
          have i3' : isB (p.drop m.toNat) := fun c hc => i3 c (List.mem_of_mem_drop hc)
          have t2 := take_s (p.drop m.toNat) (by rw [List.length_drop]; omega) i3'
          obtain ⟨⟨y, m2, e2⟩, hv2⟩ : ∃ t, tk 0 0 (p.drop m.toNat) = t := ⟨_, rfl⟩
          rw [hv2] at t2 i5
          simp only at t2 i5
          rw [if_neg (by simp)] at i5
          by_cases hbad : e2 ≠ 0 ∨ 2147483648 < x ∨ 2147483648 < y
          · rw [if_pos hbad] at i5
            rw [← i5]
            clear ih
            repeat' (first | (refine k_op1 ?_; (first | refine o_sv rfl (by decide) ?_ | (refine k_bin ?_; (refine o_val (v_add (wi64 (by omega) (by omega))) rfl rfl (by decide) ?_)) | (refine k_slice ?_; (refine o_val (v_slicefm (q := p) (g := fun x : Int => [Du8 x]) rfl (by omega) (by omega) (fun _ => rfl)) rfl rfl (by decide) ?_)) | (refine k_blt ?_; (refine o_val (v_lenm rfl) rfl rfl (by decide) ?_)) | (refine k_call ?_; (first | refine o_fn t1 rfl (by decide) ?_ | refine o_fn t2 rfl (by decide) ?_)) | (refine k_conv ?_; (refine o_val (v_conv rfl rfl (wi64 (by omega) (by omega))) rfl rfl (by decide) ?_)))) | (refine k_ops ?_; (first | refine o_go (by first | exact .inl rfl | exact .inr ⟨_, _, _, rfl, rfl, rfl⟩) ?_ | refine o_nil ?_ | refine o_no rfl rfl (by decide) ?_ | refine o_casep rfl rfl (fun _ => ?_) (fun _ => ?_) | refine o_casen rfl rfl (fun _ => ?_) (fun _ => ?_))) | (refine k_run ?_; (first | refine r_seq ?_ | refine r_region ?_ | refine r_true rfl ?_ | refine r_false rfl ?_ | refine r_skip ?_ | refine r_block ?_ | refine r_if rfl (fun _ => ?_) (fun _ => ?_) | refine r_exit rfl ?_)))
            all_goals try (exfalso; omega)
            all_goals (refine r_nil 2 rfl ?_; exact r_ret Try.func24 _ (res_two rfl rfl rfl) ⟨rfl, rfl⟩)
          · rw [if_neg hbad] at i5
            obtain rfl : e2 = 0 := by omega
            obtain ⟨y0, y1, hm2, hp2⟩ := tk_of i3' hv2
            have hml2 : m + m2 ≤ p.length := by
              have := congrArg List.length hp2
              rw [List.length_append, List.length_drop] at this; omega
            repeat' (first | (refine k_op1 ?_; (first | refine o_sv rfl (by decide) ?_ | (refine k_bin ?_; (first | refine o_val (v_add (wu64 (by omega) (by omega))) rfl rfl (by decide) ?_ | refine o_val (v_add (wi64 (by omega) (by omega))) rfl rfl (by decide) ?_)) | (refine k_slice ?_; (refine o_val (v_slicefm (q := p) (g := fun x : Int => [Du8 x]) rfl (by omega) (by omega) (fun _ => rfl)) rfl rfl (by decide) ?_)) | (refine k_blt ?_; (first | refine o_app1 (g := spc) rfl rfl (x, x + y + 1) rfl rfl rfl rfl rfl rfl rfl (by decide) (by omega) ?_ | refine o_val (v_lenm rfl) rfl rfl (by decide) ?_)) | (refine k_call ?_; (first | refine o_fn t1 rfl (by decide) ?_ | refine o_fn t2 rfl (by decide) ?_)) | (refine k_build ?_; (refine o_build rfl rfl rfl rfl rfl rfl rfl (by decide) ?_)) | (refine k_lit ?_; (refine o_lit rfl rfl rfl rfl rfl rfl rfl rfl (by decide) ?_)) | (refine k_conv ?_; (refine o_val (v_conv rfl rfl (wi64 (by omega) (by omega))) rfl rfl (by decide) ?_)))) | (refine k_ops ?_; (first | refine o_go (by first | exact .inl rfl | exact .inr ⟨_, _, _, rfl, rfl, rfl⟩) ?_ | refine o_nil ?_ | refine o_no rfl rfl (by decide) ?_ | refine o_casep rfl rfl (fun _ => ?_) (fun _ => ?_))) | (refine k_run ?_; (first | refine r_seq ?_ | refine r_region ?_ | refine r_true rfl ?_ | refine r_false rfl ?_ | refine r_skip ?_ | refine r_block ?_ | refine r_inBlock ?_ | refine r_if rfl (fun _ => ?_) (fun _ => ?_) | refine r_exit rfl ?_)))
            all_goals try (exfalso; omega)
            refine r_ren 84 1000 rfl rfl ?_
            refine r_less (ih (j, p.drop (m + m2).toNat, acc ++ [(x, x + y + 1)]) ⟨by simp only; omega, by simp only [List.length_drop]; omega, fun c hc => i3 c (List.mem_of_mem_drop hc), by simp only [List.length_append, List.length_cons, List.length_nil]; omega, ?_⟩ (by simp only; omega)) ?_ rfl
            · simp only
              rw [← i5, Option.map_map]
              congr 1
              funext z
              simp
            · simp only
              rw [show n - ((j : Nat) : Int) = n - ((j + 1 : Nat) : Int) + 1 by omega]; rfl
        · rw [if_pos he1] at i5
          rw [← i5]
          clear ih
          repeat' (first | (refine k_op1 ?_; (first | refine o_sv rfl (by decide) ?_ | (refine k_blt ?_; (refine o_val (v_lenm rfl) rfl rfl (by decide) ?_)) | (refine k_call ?_; (refine o_fn t1 rfl (by decide) ?_)))) | (refine k_ops ?_; (first | refine o_go (by first | exact .inl rfl | exact .inr ⟨_, _, _, rfl, rfl, rfl⟩) ?_ | refine o_nil ?_ | refine o_no rfl rfl (by decide) ?_ | refine o_casep rfl rfl (fun _ => ?_) (fun _ => ?_))) | (refine k_run ?_; (first | refine r_seq ?_ | refine r_region ?_ | refine r_skip ?_ | refine r_block ?_ | refine r_if rfl (fun _ => ?_) (fun _ => ?_) | refine r_ifn rfl (fun _ => ?_) (fun _ => ?_) | refine r_exit rfl ?_)))
          all_goals try (exfalso; omega)
          refine r_nil 2 rfl ?_
          exact r_ret Try.func24 _ (res_two rfl rfl rfl) ⟨rfl, rfl⟩
    · rw [if_pos (.inl he)]
      repeat' (first | (refine k_op1 ?_; (first | refine o_sv rfl (by decide) ?_ | (refine k_call ?_; (first | refine o_fn hu rfl (by decide) ?_ | refine o_fn ht rfl (by decide) ?_)))) | (refine k_ops ?_; (first | refine o_go (by first | exact .inl rfl | exact .inr ⟨_, _, _, rfl, rfl, rfl⟩) ?_ | refine o_nil ?_ | refine o_no rfl rfl (by decide) ?_ | refine o_casen rfl rfl (fun _ => ?_) (fun _ => ?_))) | (refine k_run ?_; (first | refine r_seq ?_ | refine r_region ?_ | refine r_true rfl ?_ | refine r_false rfl ?_ | refine r_skip ?_ | refine r_if rfl (fun _ => ?_) (fun _ => ?_))))
      all_goals try (exfalso; omega)
      refine r_nil 2 rfl ?_
      exact r_ret Try.func24 _ (res_two rfl rfl rfl) ⟨rfl, rfl⟩
end Go.Proofs.Ytiapeheclfkdmaa
namespace Go.Proofs.Ytiapeheclfkdmaa
open Go.Ab Go.Stab
set_option maxHeartbeats 20000000
set_option maxRecDepth 100000
set_option linter.unusedVariables false
set_option linter.unusedSimpArgs false
attribute [local irreducible] Run Ops Op1 Does Val Tr PureF Eff1 NF Rel EffV EffM
theorem decodes_law (b : List Int) (hl : b.length ≤ 9223372036854775807) (hB : isB b) : PureF Try.prog 9 [.d (bytesL b)] (B true) := by
  refine pure_of fun H => ?_
  refine spec_of Try.func9 (by kernel_rfl) rfl (by simp) ?_
  dsimp only [Try.f9]
  by_cases hb : 600 < b.length
  · repeat' (first | (refine k_op1 ?_; (first | refine o_sv rfl (by decide) ?_ | (refine k_blt ?_; (refine o_val (v_lenm rfl) rfl rfl (by decide) ?_)))) | (refine k_ops ?_; (first | refine o_go (by first | exact .inl rfl | exact .inr ⟨_, _, _, rfl, rfl, rfl⟩) ?_ | refine o_nil ?_)) | (refine k_run ?_; (first | refine r_seq ?_ | refine r_region ?_ | refine r_skip ?_ | refine r_if rfl (fun _ => ?_) (fun _ => ?_))))
    all_goals try (exfalso; omega)
    exact r_ret Try.func9 _ (res_one rfl rfl) ⟨rfl, rfl⟩
  have c1 := decode_s b (by omega) hB
  have c2 := rdecode_s b (by omega) hB
  cases hd : decP b with
  | none =>
    have hno : ∀ l, ¬ isEnc b l := fun l hl => by rw [← decP_iff hB, hd] at hl; cases hl
    obtain ⟨dd, hdd⟩ : ∃ dd, rdR (decT b) = .tup [.d dd, B false] := by
      cases ht : decT b with
      | none => exact ⟨_, rfl⟩
      | some q =>
        obtain ⟨l, r⟩ := q
        refine ⟨spans l, ?_⟩
        rw [rdR]
        by_cases h : r = [] ∧ chk12 l = 0
        · obtain ⟨rfl, h2⟩ := h
          exact absurd (decT_inv hB ht h2) (hno l)
        · rw [← Bool.decide_and, decide_eq_false h]
    rw [hdd] at c2
    have c1' : PureF Try.prog 22 [.d (bytesL b)] (.tup [.d (.lit nilP), I .i64 9]) := pure_of fun H => by
      have := c1 H; rw [hd] at this; exact this
    repeat' (first | (refine k_op1 ?_; (first | refine o_sv rfl (by decide) ?_ | (refine k_blt ?_; (refine o_val (v_lenm rfl) rfl rfl (by decide) ?_)) | (refine k_call ?_; (first | refine o_fn c1' rfl (by decide) ?_ | refine o_fn c2 rfl (by decide) ?_ | refine o_fn awake_s rfl (by decide) ?_)) | refine o_val (v_pnileq rfl) rfl rfl (by decide) ?_)) | (refine k_ops ?_; (first | refine o_go (by first | exact .inl rfl | exact .inr ⟨_, _, _, rfl, rfl, rfl⟩) ?_ | refine o_nil ?_)) | (refine k_run ?_; (first | refine r_seq ?_ | refine r_region ?_ | refine r_true rfl ?_ | refine r_skip ?_ | refine r_if rfl (fun _ => ?_) (fun _ => ?_))))
    all_goals try (exfalso; omega)
    exact r_ret Try.func9 _ (res_one rfl rfl) ⟨rfl, rfl⟩
  | some l =>
    have he := (decP_iff hB l).1 hd
    rw [decT_enc he, rdR, decide_eq_true rfl, decide_eq_true he.2.2.2] at c2
    obtain ⟨k1, k2⟩ := good_of he.2.2.2
    have c1' : ∀ H, Ab.Spec Try.prog 22 [.d (bytesL b)] H (fun r H' => r = .newT (xbox l) [.d (.lit (.int .i64 0))] ∧ H' = H) := fun H => by
      have := c1 H; rw [hd] at this; exact this
    have c3 := len_s (X := 600) l k1
    have c4 := encode_s (X := 600) 0 l k1 k2
    rw [seal_of he] at c4
    repeat' (first | (refine k_op1 ?_; (first | refine o_sv rfl (by decide) ?_ | (refine k_blt ?_; (refine o_val (v_lenm rfl) rfl rfl (by decide) ?_)) | (refine k_call ?_; (first | (refine o_callnT rfl (c1' _) (by decide) rfl (fun r H' h => ⟨_, _, h.1, h.2, rfl, rfl, ?_⟩); refine o_renT 12 600 rfl rfl ?_) | refine o_fn c2 rfl (by decide) ?_)))) | (refine k_ops ?_; (first | refine o_go (by first | exact .inl rfl | exact .inr ⟨_, _, _, rfl, rfl, rfl⟩) ?_ | refine o_nil ?_)) | (refine k_run ?_; (first | refine r_seq ?_ | refine r_region ?_ | refine r_false rfl ?_ | refine r_skip ?_ | refine r_tr ?_ | refine r_if rfl (fun _ => ?_) (fun _ => ?_))) | (refine k_tr ?_; (first | (refine kt_end ?_; refine t_end mix (by kernel_rfl) ?_) | refine t_val (v_tostr (l := b) rfl rfl rfl) (by first | exact rfl | exact ⟨_, rfl, rfl, rfl⟩) rfl rfl (by decide) ?_ | refine t_sv rfl (by first | exact rfl | exact ⟨_, rfl, rfl, rfl⟩) (by decide) ?_ | (refine kt_blt ?_; (refine t_val (v_lenm rfl) (by first | exact rfl | exact ⟨_, rfl, rfl, rfl⟩) rfl rfl (by decide) ?_)) | (refine kt_call ?_; (first | refine t_effd c3 (by first | exact rfl | exact ⟨_, rfl, rfl, rfl⟩) rfl rfl (by decide) ?_ | refine t_effd c4 (by first | exact rfl | exact ⟨_, rfl, rfl, rfl⟩) rfl rfl (by decide) ?_ | refine t_fn awake_s (by first | exact rfl | exact ⟨_, rfl, rfl, rfl⟩) rfl (by decide) ?_)) | refine t_val (v_pne rfl) (by first | exact rfl | exact ⟨_, rfl, rfl, rfl⟩) rfl rfl (by decide) ?_ | (refine t_either rfl rfl (fun hg => ?_) (fun hg => ?_) <;> simp only [hg] <;> (try simp only [decide_eq_true_eq, decide_eq_false_iff_not, Bool.not_eq_true', Bool.not_eq_false'] at hg)))))
    all_goals try (exfalso; omega)
    all_goals first | exact r_ret Try.func9 _ (res_one rfl rfl) ⟨rfl, rfl⟩ | (exfalso; simp_all; done)
theorem encodes_law (l : List Span) (s : Span) (hl : l.length ≤ 9223372036854775807) : PureF Try.prog 8 [.d (spans l), .d (Dsp s)] (B true) := by
  refine pure_of fun H => ?_
  refine spec_of Try.func8 (by kernel_rfl) rfl (by simp) ?_
  dsimp only [Try.f8]
  by_cases hb : 100 < l.length
  · repeat' (first | (refine k_op1 ?_; (first | refine o_sv rfl (by decide) ?_ | (refine k_blt ?_; (refine o_val (v_lenm rfl) rfl rfl (by decide) ?_)) | (refine k_box ?_; (refine o_does (d_box rfl rfl rfl rfl rfl (by decide)) ?_)))) | (refine k_ops ?_; (first | refine o_go (by first | exact .inl rfl | exact .inr ⟨_, _, _, rfl, rfl, rfl⟩) ?_ | refine o_nil ?_)) | (refine k_run ?_; (first | refine r_seq ?_ | refine r_region ?_ | refine r_skip ?_ | refine r_if rfl (fun _ => ?_) (fun _ => ?_))))
    all_goals try (exfalso; omega)
    exact r_ret Try.func8 _ (res_one rfl rfl) ⟨rfl, rfl⟩
  by_cases hc : chk12 l = 0
  · obtain ⟨k1, k2⟩ := good_of hc
    have c1 := built_ok l (by omega) hc
    have c2 := encode_s (X := 600) 0 l k1 k2
    have hen := isEnc_seal hc
    have hbl : (sealB (encB l)).length ≤ 100000 := by
      have a1 := uv_len l.length
      have a2 := encS_len l
      rw [sealB_len, encB, List.length_append]; omega
    have hB : isB (sealB (encB l)) := sealB_isB (isB_app (uv_isB (by omega) (by omega)) (encS_isB l k2))
    have c3 := decode_s (sealB (encB l)) hbl hB
    rw [(decP_iff hB l).2 hen] at c3
    have c3' : ∀ H, Ab.Spec Try.prog 22 [.d (bytesL (sealB (encB l)))] H (fun r H' => r = .newT (xbox l) [.d (.lit (.int .i64 0))] ∧ H' = H) := c3
    have c4 := renc_s l k1 k2
    have c5 := len_s (X := 601) l k1
    have c6 := encode_s (X := 601) 0 l k1 k2
    generalize sealB (encB l) = eb at *
    have d1 := overlap_s (X := 600) 0 l s (by omega)
    have d2 := overlap_s (X := 601) 0 l s (by omega)
    have d3 := stab_s (X := 600) 0 l s.1 (by omega)
    have d4 := stab_s (X := 601) 0 l s.1 (by omega)
    have n1 := fnd_len l s fun _ => true
    have n2 := stb_len l s.1
    have e1 := same_refl (fnd l s fun _ => true) (by omega)
    have e2 := same_refl (stb l s.1) (by omega)
    repeat' (first | (refine k_op1 ?_; (first | refine o_sv rfl (by decide) ?_ | (refine k_blt ?_; (refine o_val (v_lenm rfl) rfl rfl (by decide) ?_)) | (refine k_call ?_; (first | (refine o_callnT rfl (c1 _) (by decide) rfl (fun r H' h => ⟨_, _, h.1, h.2, rfl, rfl, ?_⟩); refine o_renT 15 600 rfl rfl ?_) | refine o_effd c2 rfl rfl (by decide) ?_ | (refine o_callnT rfl (c3' _) (by decide) rfl (fun r H' h => ⟨_, _, h.1, h.2, rfl, rfl, ?_⟩); refine o_renT 32 601 rfl rfl ?_))) | (refine k_box ?_; (refine o_does (d_box rfl rfl rfl rfl rfl (by decide)) ?_)) | refine o_val (v_peq rfl) rfl rfl (by decide) ?_)) | (refine k_ops ?_; (first | refine o_go (by first | exact .inl rfl | exact .inr ⟨_, _, _, rfl, rfl, rfl⟩) ?_ | refine o_nil ?_)) | (refine k_run ?_; (first | refine r_seq ?_ | refine r_region ?_ | refine r_false rfl ?_ | refine r_skip ?_ | refine r_tr ?_ | refine r_if rfl (fun _ => ?_) (fun _ => ?_))) | (refine k_tr ?_; (first | (refine kt_end ?_; refine t_end mix (by kernel_rfl) ?_) | refine t_val (v_tostr (l := eb) rfl rfl rfl) (by first | exact rfl | exact ⟨_, rfl, rfl, rfl⟩) rfl rfl (by decide) ?_ | refine t_sv rfl (by first | exact rfl | exact ⟨_, rfl, rfl, rfl⟩) (by decide) ?_ | (refine kt_load ?_; (first | refine t_val (v_load rfl rfl rfl rfl) (by first | exact rfl | exact ⟨_, rfl, rfl, rfl⟩) rfl rfl (by decide) ?_ | refine t_val (v_loadp rfl rfl rfl rfl) (by first | exact rfl | exact ⟨_, rfl, rfl, rfl⟩) rfl rfl (by decide) ?_)) | (refine kt_field ?_; (refine t_val (v_field rfl rfl) (by first | exact rfl | exact ⟨_, rfl, rfl, rfl⟩) rfl rfl (by decide) ?_)) | (refine kt_blt ?_; (refine t_val (v_lenm rfl) (by first | exact rfl | exact ⟨_, rfl, rfl, rfl⟩) rfl rfl (by decide) ?_)) | (refine kt_call ?_; (first | refine t_fn c4 (by first | exact rfl | exact ⟨_, rfl, rfl, rfl⟩) rfl (by decide) ?_ | refine t_effd c5 (by first | exact rfl | exact ⟨_, rfl, rfl, rfl⟩) rfl rfl (by decide) ?_ | refine t_effd c6 (by first | exact rfl | exact ⟨_, rfl, rfl, rfl⟩) rfl rfl (by decide) ?_ | refine t_effd d1 (by first | exact rfl | exact ⟨_, rfl, rfl, rfl⟩) rfl rfl (by decide) ?_ | refine t_effd d2 (by first | exact rfl | exact ⟨_, rfl, rfl, rfl⟩) rfl rfl (by decide) ?_ | refine t_effd d3 (by first | exact rfl | exact ⟨_, rfl, rfl, rfl⟩) rfl rfl (by decide) ?_ | refine t_effd d4 (by first | exact rfl | exact ⟨_, rfl, rfl, rfl⟩) rfl rfl (by decide) ?_ | refine t_fn e1 (by first | exact rfl | exact ⟨_, rfl, rfl, rfl⟩) rfl (by decide) ?_ | refine t_fn e2 (by first | exact rfl | exact ⟨_, rfl, rfl, rfl⟩) rfl (by decide) ?_ | refine t_fn awake_s (by first | exact rfl | exact ⟨_, rfl, rfl, rfl⟩) rfl (by decide) ?_)) | refine t_val (v_peq rfl) (by first | exact rfl | exact ⟨_, rfl, rfl, rfl⟩) rfl rfl (by decide) ?_ | (refine t_either rfl rfl (fun hg => ?_) (fun hg => ?_) <;> simp only [hg] <;> (try simp only [decide_eq_true_eq, decide_eq_false_iff_not, Bool.not_eq_true', Bool.not_eq_false'] at hg)))))
    all_goals try (exfalso; omega)
    all_goals first | exact r_ret Try.func8 _ (res_one rfl rfl) ⟨rfl, rfl⟩ | (exfalso; simp_all; done)
  · have c1 := built_bad l (by omega) hc
    repeat' (first | (refine k_op1 ?_; (first | refine o_sv rfl (by decide) ?_ | (refine k_blt ?_; (refine o_val (v_lenm rfl) rfl rfl (by decide) ?_)) | (refine k_call ?_; (first | refine o_fn c1 rfl (by decide) ?_ | refine o_fn awake_s rfl (by decide) ?_)) | (refine k_box ?_; (refine o_does (d_box rfl rfl rfl rfl rfl (by decide)) ?_)) | refine o_val (v_pnileq rfl) rfl rfl (by decide) ?_)) | (refine k_ops ?_; (first | refine o_go (by first | exact .inl rfl | exact .inr ⟨_, _, _, rfl, rfl, rfl⟩) ?_ | refine o_nil ?_)) | (refine k_run ?_; (first | refine r_seq ?_ | refine r_region ?_ | refine r_true rfl ?_ | refine r_skip ?_ | refine r_if rfl (fun _ => ?_) (fun _ => ?_))))
    all_goals try (exfalso; omega)
    exact r_ret Try.func8 _ (res_one rfl rfl) ⟨rfl, rfl⟩
end Go.Proofs.Ytiapeheclfkdmaa
namespace Go.Proofs.Ytiapeheclfkdmaa
open Go.Ab Go.ChangeShapes Go.WideShapes Go.ChangeAt Go.RowKit
set_option linter.unusedVariables false
set_option linter.unusedSimpArgs false
set_option maxRecDepth 100000
set_option maxHeartbeats 20000000
theorem in_bytes {H : Type} {enc : TypeId × Value → H} {W : World} {v : Value} {d : DataW H} {p : List MemPlace} {r : Reach} {b0 : Nat} (hval : Value.okWide Try.prog W r b0 41 v)
    (h : DataW.Trod enc Try.prog W 0 (fun _ => true) true 41 v d p) : ∃ l : List Int, l.length ≤ 9223372036854775807 ∧ (∀ x ∈ l, 0 ≤ x ∧ x < 256) ∧ DR W (fun _ => False) (bytesL l) v := by
  obtain ⟨ds, h1, h2⟩ := in_one (G := [41, 5]) (by kernel_rfl) (by decide) (by kernel_rfl) hval h
  obtain ⟨l, rfl, hl, hq⟩ := h1.inv_list (e := 5) (fun x : Int => [Du8 x]) (fun z => 0 ≤ z ∧ z < 256) (by kernel_rfl) fun x hx => by
    obtain ⟨z, h1, h2, h3⟩ := hx.inv_int (k := .u8) (by kernel_rfl)
    simp [IntKind.min, IntKind.max, IntKind.bits, IntKind.signed] at h2 h3
    exact ⟨z, h1, by omega, by omega⟩
  exact ⟨l, hl, hq, h2 _ rfl⟩
end Go.Proofs.Ytiapeheclfkdmaa
