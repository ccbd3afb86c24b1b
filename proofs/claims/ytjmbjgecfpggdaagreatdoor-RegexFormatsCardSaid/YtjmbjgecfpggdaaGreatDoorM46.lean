/- A part of the proof: G46. -/
import Derived.Test.YtjmbjgecfpggdaaGreatDoorM45
import Derived.Test.YtjmbjgecfpggdaaGreatDoorMX24
import Derived.Test.YtjmbjgecfpggdaaGreatDoorRb
set_option linter.all false
set_option linter.unusedVariables false
set_option linter.unusedSimpArgs false
namespace Go.Proofs.YtjmbjgecfpggdaaGreatDoor
open Go.Ab Go.Rx
set_option maxHeartbeats 20000000
set_option maxRecDepth 100000
attribute [local irreducible] Run Ops Op1 z2r Val Tr z1n z36 NF Rel z5q z5r zad
def fmS (e : Rx) : ByteArray := if val e = 0 ∧ wrt e = true then txE (fm e 0) else ⟨#[]⟩
theorem zoy {e : Rx} (h : val e = 0) : sz e ≤ 200 := by
 rw [val] at h
 split at h
 · cases h
 · omega
theorem zs4 (e : Rx) (hf : fit e) : z1n Tryz.prog 11 [.d (Drx e)] (S (fmS e)) := by
 refine z1u fun H => ?_
 have hval := z6f e hf
 by_cases h0 : val e = 0
 · have ht := zsk e hf (z74 h0) (zoy h0) 0
   have hok := zpa (z74 h0) 0
   have htx := zp3 (z74 h0) 0
   rw [txP, hok] at ht
   rw [h0] at hval
   rw [fmS, h0]
   cases hw : wrt e with
   | true =>
    rw [hw] at ht
    rw [htx hw] at ht
    rw [if_pos ⟨rfl, rfl⟩]
    generalize txE (fm e 0) = T at *
    obtain ⟨op, mn, mx, rs, ks⟩ := e
    rw [z2h] at hval ht ⊢
    refine z16 Tryz.func11 (by kernel_rfl) rfl (by simp) ?_
    dsimp only [Tryz.f11]
    repeat' (first | (apply z0e; (first | refine z13 rfl (by decide) ?_ | (apply z09; (refine z00 (z2g rfl rfl rfl) rfl rfl (by decide) ?_)) | (apply z0l; (first | refine z1z hval rfl (by decide) ?_ | refine z1z ht rfl (by decide) ?_)) | (apply z1y; (refine z0j (z3b rfl rfl rfl rfl rfl (by decide)) ?_)))) | (apply z0f; (first | refine z0z ?_ | apply z0c)) | (apply z0d; (first | apply z0h | apply z01 | refine z0g rfl ?_ | apply z06)))
    all_goals try (exfalso; omega)
    all_goals exact z07 Tryz.func11 _ (z0a rfl rfl) ⟨rfl, rfl⟩
   | false =>
    rw [hw] at ht
    rw [if_neg (fun h => by cases h.2)]
    generalize (txR e 0).1 = T at *
    obtain ⟨op, mn, mx, rs, ks⟩ := e
    rw [z2h] at hval ht ⊢
    refine z16 Tryz.func11 (by kernel_rfl) rfl (by simp) ?_
    dsimp only [Tryz.f11]
    repeat' (first | (apply z0e; (first | refine z13 rfl (by decide) ?_ | (apply z09; (refine z00 (z2g rfl rfl rfl) rfl rfl (by decide) ?_)) | (apply z0l; (first | refine z1z hval rfl (by decide) ?_ | refine z1z ht rfl (by decide) ?_)) | (apply z1y; (refine z0j (z3b rfl rfl rfl rfl rfl (by decide)) ?_)))) | (apply z0f; (first | refine z0z ?_ | apply z0c)) | (apply z0d; (first | apply z0h | apply z01 | refine z0o rfl ?_ | refine z0g rfl ?_ | apply z06)))
    all_goals try (exfalso; omega)
    all_goals exact z07 Tryz.func11 _ (z0a rfl rfl) ⟨rfl, rfl⟩
 · rw [fmS, if_neg (fun h => h0 h.1)]
   generalize val e = v at *
   obtain ⟨op, mn, mx, rs, ks⟩ := e
   rw [z2h] at hval ⊢
   refine z16 Tryz.func11 (by kernel_rfl) rfl (by simp) ?_
   dsimp only [Tryz.f11]
   repeat' (first | (apply z0e; (first | refine z13 rfl (by decide) ?_ | (apply z09; (refine z00 (z2g rfl rfl rfl) rfl rfl (by decide) ?_)) | (apply z0l; (refine z1z hval rfl (by decide) ?_)) | (apply z1y; (refine z0j (z3b rfl rfl rfl rfl rfl (by decide)) ?_)))) | (apply z0f; (first | refine z0z ?_ | apply z0c)) | (apply z0d; (first | apply z0h | apply z01 | apply z06 | refine z2w rfl (fun _ => ?_) (fun _ => ?_))))
   all_goals try (exfalso; omega)
   all_goals exact z07 Tryz.func11 _ (z0a rfl rfl) ⟨rfl, rfl⟩
theorem zvp {x y : Operand} (r : Rg) (w : World) (own : Nat → Prop) (us vs : List Value) (hu : DR w own (.agg (rgc r)) (.agg us.toArray)) (hv : DR w own (.agg (rgc r)) (.agg vs.toArray)) :
  (do eqGuard .neq 52 x y (.agg us.toArray) (.agg vs.toArray); binOp .neq 52 (.agg us.toArray) (.agg vs.toArray) : Sem Value).run Tryz.prog w = .ok (.bool false) w := by
 have e1 := DR.lits (xs := [.int .i32 r.1, .int .i32 r.2]) hu
 have e2 := DR.lits (xs := [.int .i32 r.1, .int .i32 r.2]) hv
 subst e1 e2
 have hf : (Tryz.prog.fieldsOf 52).toList.map (fun f => (f.name == "_", f.type, f.offset)) = [(false, 21, 0), (false, 21, 1)] := by kernel_rfl
 have hu : Tryz.prog.underlying 52 = some (.struct (Tryz.prog.fieldsOf 52)) := by kernel_rfl
 have hs : Tryz.prog.stoodInHeld 52 = false := by kernel_rfl
 have hg : Tryz.prog.eqGuardType Tryz.prog.depth 52 = false := by kernel_rfl
 have hint : Tryz.prog.underlying 21 = some (.int .i32) := T21.int rfl
 have ha3 : ∀ w, (isAgg 21).run Tryz.prog w = .ok false w := fun w => T21.isAgg w
 rw [Sem.run_bind, run_eqGuard_agg _ _ _ _ _ _ _ hg, Result.andThen_ok, run_neq_struct, run_equalIn_struct w 9999 52 _ _ hu hs]
 generalize (Tryz.prog.fieldsOf 52).toList = fs at hf
 obtain ⟨f1, f2, rfl⟩ : ∃ f1 f2, fs = [f1, f2] := by
  have hl := congrArg List.length hf
  simp only [List.length_map, List.length_cons, List.length_nil] at hl
  match fs, hl with
  | [a, b], _ => exact ⟨a, b, rfl⟩
 simp only [List.map_cons, List.map_nil, List.cons.injEq, Prod.mk.injEq, beq_eq_false_iff_ne, ne_eq, and_true] at hf
 obtain ⟨⟨n1, t1, o1⟩, n2, t2, o2⟩ := hf
 simp only [Op.eqFields, n1, n2, ne_eq, not_false_eq_true, if_true, t1, t2, o1, o2, part, Sem.run_bind, ha3, Result.andThen_ok, Bool.false_eq_true, if_false]
 simp [run_equalIn_int _ _ _ _ _ _ _ hint]
end Go.Proofs.YtjmbjgecfpggdaaGreatDoor
