/- A part of the proof: G46. -/
import Derived.Test.YtjmbjgecfpggdaaGreatDoorM45
import Derived.Test.YtjmbjgecfpggdaaGreatDoorRx
import Derived.Test.YtjmbjgecfpggdaaGreatDoorMX23
import Derived.Test.YtjmbjgecfpggdaaGreatDoorRb
set_option linter.all false
set_option linter.unusedVariables false
set_option linter.unusedSimpArgs false
namespace Go.Proofs.YtjmbjgecfpggdaaGreatDoor
open Go.Ab Go.Rx
set_option maxHeartbeats 20000000
set_option maxRecDepth 100000
attribute [local irreducible] Run Ops Op1 z2q Val Tr z1p z2j NF Rel z5b z5c z84
theorem ztm {e : Rx} (h : val e = 0) : sz e ≤ 200 := by
 rw [val] at h
 split at h
 · cases h
 · omega
theorem zvp {x y : Operand} (r : Rg) (w : World) (own : Nat → Prop) (us vs : List Value) (hu : DR w own (.agg (rgc r)) (.agg us.toArray)) (hv : DR w own (.agg (rgc r)) (.agg vs.toArray)) :
  (do eqGuard .neq 52 x y (.agg us.toArray) (.agg vs.toArray); binOp .neq 52 (.agg us.toArray) (.agg vs.toArray) : Sem Value).run Tryz.prog w = .ok (.bool false) w := by
 have e1 := DR.lits (xs := [.int .i32 r.1, .int .i32 r.2]) hu
 have e2 := DR.lits (xs := [.int .i32 r.1, .int .i32 r.2]) hv
 subst e1 e2
 have hf : (Tryz.prog.fieldsOf 52).toList.map (fun f => (f.name == "_", f.type, f.offset)) = [(false, 21, 0), (false, 21, 1)] := by kernel_rfl
 have hu : Tryz.prog.underlying 52 = some (.struct (Tryz.prog.fieldsOf 52)) := by kernel_rfl
 have hs : Tryz.prog.stoodInHeld 52 = false := by kernel_rfl
 have hg : Tryz.prog.eqGuardType Tryz.prog.depth 52 = false := by kernel_rfl
 have hint : Tryz.prog.underlying 21 = some (.int .i32) := T21.int rfl
 have ha3 : ∀ w, (isAgg 21).run Tryz.prog w = .ok false w := fun w => T21.isAgg w
 rw [Sem.run_bind, run_eqGuard_agg _ _ _ _ _ _ _ hg, Result.andThen_ok, run_neq_struct, run_equalIn_struct w 9999 52 _ _ hu hs]
 generalize (Tryz.prog.fieldsOf 52).toList = fs at hf
 obtain ⟨f1, f2, rfl⟩ : ∃ f1 f2, fs = [f1, f2] := by
  have hl := congrArg List.length hf
  simp only [List.length_map, List.length_cons, List.length_nil] at hl
  match fs, hl with
  | [a, b], _ => exact ⟨a, b, rfl⟩
 simp only [List.map_cons, List.map_nil, List.cons.injEq, Prod.mk.injEq, beq_eq_false_iff_ne, ne_eq, and_true] at hf
 obtain ⟨⟨n1, t1, o1⟩, n2, t2, o2⟩ := hf
 simp only [Op.eqFields, n1, n2, ne_eq, not_false_eq_true, if_true, t1, t2, o1, o2, part, Sem.run_bind, ha3, Result.andThen_ok, Bool.false_eq_true, if_false]
 simp [run_equalIn_int _ _ _ _ _ _ _ hint]
end Go.Proofs.YtjmbjgecfpggdaaGreatDoor
