/- A part of the proof: G46. -/
import Derived.Test.YtjmbjgecfpggdaaDoorM45
import Derived.Test.YtjmbjgecfpggdaaDoorMX24
import Derived.Test.YtjmbjgecfpggdaaDoorRb
set_option linter.all false
set_option linter.unusedVariables false
set_option linter.unusedSimpArgs false
namespace Go.Proofs.YtjmbjgecfpggdaaDoor
open Go.Ab Go.Rx
set_option maxHeartbeats 20000000
set_option maxRecDepth 100000
set_option linter.unusedVariables false
set_option linter.unusedSimpArgs false
set_option linter.unusedSectionVars false
attribute [local irreducible] Run Ops Op1 Does Val Tr PureF Eff1 NF Rel EffV EffM EffN
def fmS (e : Rx) : ByteArray := if val e = 0 ∧ wrt e = true then txE (fm e 0) else ⟨#[]⟩
theorem val_sz {e : Rx} (h : val e = 0) : sz e ≤ 200 := by
  rw [val] at h
  split at h
  · cases h
  · omega
theorem fmt_s (e : Rx) (hf : fit e) : PureF Tryd.prog 21 [.d (Drx e)] (S (fmS e)) := by
  refine pure_of fun H => ?_
  have hval := validate_s e hf
  by_cases h0 : val e = 0
  · have ht := text_s e hf (val_vns h0) (val_sz h0) 0
    have hok := txR_ok (val_vns h0) 0
    have htx := txR_tx (val_vns h0) 0
    rw [txP, hok] at ht
    rw [h0] at hval
    rw [fmS, h0]
    cases hw : wrt e with
    | true =>
      rw [hw] at ht
      rw [htx hw] at ht
      rw [if_pos ⟨rfl, rfl⟩]
      generalize txE (fm e 0) = T at *
      obtain ⟨op, mn, mx, rs, ks⟩ := e
      rw [Drx_mk] at hval ht ⊢
      refine spec_of Tryd.func21 (by kernel_rfl) rfl (by simp) ?_
      dsimp only [Tryd.f21]
      repeat' (first | (refine k_op1 ?_; (first | refine o_sv rfl (by decide) ?_ | (refine k_load ?_; (refine o_val (v_loada rfl rfl rfl) rfl rfl (by decide) ?_)) | (refine k_call ?_; (first | refine o_fn hval rfl (by decide) ?_ | refine o_fn ht rfl (by decide) ?_)) | (refine k_box ?_; (refine o_does (d_box rfl rfl rfl rfl rfl (by decide)) ?_)))) | (refine k_ops ?_; (first | refine o_go (by first | exact .inl rfl | exact .inr ⟨_, _, _, rfl, rfl, rfl⟩) ?_ | refine o_nil ?_)) | (refine k_run ?_; (first | refine r_seq ?_ | refine r_region ?_ | refine r_false rfl ?_ | refine r_skip ?_)))
      all_goals try (exfalso; omega)
      all_goals exact r_ret Tryd.func21 _ (res_one rfl rfl) ⟨rfl, rfl⟩
    | false =>
      rw [hw] at ht
      rw [if_neg (fun h => by cases h.2)]
      generalize (txR e 0).1 = T at *
      obtain ⟨op, mn, mx, rs, ks⟩ := e
      rw [Drx_mk] at hval ht ⊢
      refine spec_of Tryd.func21 (by kernel_rfl) rfl (by simp) ?_
      dsimp only [Tryd.f21]
      repeat' (first | (refine k_op1 ?_; (first | refine o_sv rfl (by decide) ?_ | (refine k_load ?_; (refine o_val (v_loada rfl rfl rfl) rfl rfl (by decide) ?_)) | (refine k_call ?_; (first | refine o_fn hval rfl (by decide) ?_ | refine o_fn ht rfl (by decide) ?_)) | (refine k_box ?_; (refine o_does (d_box rfl rfl rfl rfl rfl (by decide)) ?_)))) | (refine k_ops ?_; (first | refine o_go (by first | exact .inl rfl | exact .inr ⟨_, _, _, rfl, rfl, rfl⟩) ?_ | refine o_nil ?_)) | (refine k_run ?_; (first | refine r_seq ?_ | refine r_region ?_ | refine r_true rfl ?_ | refine r_false rfl ?_ | refine r_skip ?_)))
      all_goals try (exfalso; omega)
      all_goals exact r_ret Tryd.func21 _ (res_one rfl rfl) ⟨rfl, rfl⟩
  · rw [fmS, if_neg (fun h => h0 h.1)]
    generalize val e = v at *
    obtain ⟨op, mn, mx, rs, ks⟩ := e
    rw [Drx_mk] at hval ⊢
    refine spec_of Tryd.func21 (by kernel_rfl) rfl (by simp) ?_
    dsimp only [Tryd.f21]
    repeat' (first | (refine k_op1 ?_; (first | refine o_sv rfl (by decide) ?_ | (refine k_load ?_; (refine o_val (v_loada rfl rfl rfl) rfl rfl (by decide) ?_)) | (refine k_call ?_; (refine o_fn hval rfl (by decide) ?_)) | (refine k_box ?_; (refine o_does (d_box rfl rfl rfl rfl rfl (by decide)) ?_)))) | (refine k_ops ?_; (first | refine o_go (by first | exact .inl rfl | exact .inr ⟨_, _, _, rfl, rfl, rfl⟩) ?_ | refine o_nil ?_)) | (refine k_run ?_; (first | refine r_seq ?_ | refine r_region ?_ | refine r_skip ?_ | refine r_ifn rfl (fun _ => ?_) (fun _ => ?_))))
    all_goals try (exfalso; omega)
    all_goals exact r_ret Tryd.func21 _ (res_one rfl rfl) ⟨rfl, rfl⟩
theorem rngNe {x y : Operand} (r : Rg) (w : World) (own : Nat → Prop) (us vs : List Value) (hu : DR w own (.agg (rgc r)) (.agg us.toArray)) (hv : DR w own (.agg (rgc r)) (.agg vs.toArray)) :
    (do eqGuard .neq 71 x y (.agg us.toArray) (.agg vs.toArray); binOp .neq 71 (.agg us.toArray) (.agg vs.toArray) : Sem Value).run Tryd.prog w = .ok (.bool false) w := by
  have e1 := DR.lits (xs := [.int .i32 r.1, .int .i32 r.2]) hu
  have e2 := DR.lits (xs := [.int .i32 r.1, .int .i32 r.2]) hv
  subst e1 e2
  have hf : (Tryd.prog.fieldsOf 71).toList.map (fun f => (f.name == "_", f.type, f.offset)) = [(false, 21, 0), (false, 21, 1)] := by kernel_rfl
  have hu : Tryd.prog.underlying 71 = some (.struct (Tryd.prog.fieldsOf 71)) := by kernel_rfl
  have hs : Tryd.prog.stoodInHeld 71 = false := by kernel_rfl
  have hg : Tryd.prog.eqGuardType Tryd.prog.depth 71 = false := by kernel_rfl
  have hint : Tryd.prog.underlying 21 = some (.int .i32) := T21.int rfl
  have ha3 : ∀ w, (isAgg 21).run Tryd.prog w = .ok false w := fun w => T21.isAgg w
  rw [Sem.run_bind, run_eqGuard_agg _ _ _ _ _ _ _ hg, Result.andThen_ok, run_neq_struct, run_equalIn_struct w 9999 71 _ _ hu hs]
  generalize (Tryd.prog.fieldsOf 71).toList = fs at hf
  obtain ⟨f1, f2, rfl⟩ : ∃ f1 f2, fs = [f1, f2] := by
    have hl := congrArg List.length hf
    simp only [List.length_map, List.length_cons, List.length_nil] at hl
    match fs, hl with
    | [a, b], _ => exact ⟨a, b, rfl⟩
  simp only [List.map_cons, List.map_nil, List.cons.injEq, Prod.mk.injEq, beq_eq_false_iff_ne, ne_eq, and_true] at hf
  obtain ⟨⟨n1, t1, o1⟩, n2, t2, o2⟩ := hf
  simp only [Op.eqFields, n1, n2, ne_eq, not_false_eq_true, if_true, t1, t2, o1, o2, part, Sem.run_bind, ha3, Result.andThen_ok, Bool.false_eq_true, if_false]
  simp [run_equalIn_int _ _ _ _ _ _ _ hint]
end Go.Proofs.YtjmbjgecfpggdaaDoor
