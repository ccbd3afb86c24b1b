/- The framework of this proof, last part: from a contract to a given statement. -/
import Derived.Test.YtiapeheclfkdmaaFc
import Derived.ProofKit
set_option linter.all false
set_option linter.unusedVariables false
set_option linter.unusedSimpArgs false
namespace Go.Ab
open Go.ChangeShapes Go.WideShapes Go.ChangeAt Go.RowKit

theorem Ext.toBelow {w w' : World} {own' : Nat → Prop} (h : Ext w (fun _ => False) w' own') : Below w.heap.size w w' :=
  ⟨h.os, h.tape, h.output, h.size, fun k hk => h.block k hk (fun f => f)⟩
theorem Below.kept {w w' : World} (h : Below w.heap.size w w') (may : MemPlace → Prop) : w.keptBut w' may := by
  refine ⟨h.os, h.output, fun i hi => ?_⟩
  rw [h.block i hi]
  cases hb : w.heap[i]? with
  | none => rfl
  | some o => cases o <;> simp

section
variable {H : Type} {enc : TypeId × Value → H} {P : Program}
theorem trodAll_stays (hl : laidOutB P = true) {W W' : World} (hb : Below W.heap.size W W') : ∀ {ts : List TypeId} {vs : List Value} {ds : List (DataW H)} {ps : List MemPlace},
    ts.all (fun t => P.readableRec t && decide (t < P.types.size)) = true → (∀ x ∈ ps, x.block < W.heap.size) → DataW.TrodAll enc P W 0 (fun _ => true) true ts vs ds ps →
    DataW.TrodAll enc P W' 0 (fun b => decide (b < W.heap.size)) true ts vs ds ps
  | [], vs, ds, ps, _, _, h => by
    obtain ⟨rfl, rfl, rfl⟩ := trodAll_nil h
    exact trodAll_mk0
  | t :: ts, vs, ds, ps, hp, hlt, h => by
    obtain ⟨v, vs', d, ds', p, q, rfl, rfl, rfl, h1, h2⟩ := trodAll_cons h
    simp only [List.all_cons, Bool.and_eq_true, decide_eq_true_eq] at hp
    exact ⟨p, q, Below.trod hl hp.1.1 hp.1.2 h1 hb (fun x hx => hlt x (by simp [hx])), trodAll_stays hl hb hp.2 (fun x hx => hlt x (by simp [hx])) h2, rfl⟩

/-- a law's post -/
theorem law_post {fn : Func} {s : ChangeSpec} {W W' : World} {own' : Nat → Prop} {args : Array Value} {ds gs : List (DataW H)} {before : List MemPlace} {tb : TypeId} (hl : laidOutB P = true)
    (hp : fn.params.toList.all (fun t => P.readableRec t && decide (t < P.types.size)) = true) (hW : DataW.Whole enc P fn.params.toList s.vars false W args.toList ds gs before) (hE : Ext W (fun _ => False) W' own')
    (hv : s.vars = []) (hs : s.fn H ds = { results := [.lit (.bool true)], args := ds }) (hr : fn.resultTypes = #[tb]) (hb : P.underlying tb = some .bool) :
    s.post enc P fn false true false false W args (.bool true) W' := by
  have hlt := hW.lt
  have hW' := hW
  obtain ⟨p, q, hA, hV, rfl, hfz, hnd⟩ := hW
  rw [hv] at hV
  obtain ⟨rfl, rfl⟩ := trodVars_none hV
  simp only [List.append_nil] at hlt hfz hnd hW'
  refine ⟨ds, [], p, [], p, [], hW', ?_, ?_, ?_, Below.kept hE.toBelow _, fun h => by cases h⟩
  · rw [List.append_nil, hs, hr]
    exact trodAll_mk1 (shut_bool hb _)
  · rw [List.append_nil, hs]
    exact trodAll_stays hl hE.toBelow hp hlt hA
  · rw [List.append_nil, hs, hv]
    rfl

/-- a list of numbers that came in -/
theorem in_ints {W : World} {t e : TypeId} {k : IntKind} {v : Value} {d : DataW H} {p : List MemPlace} (ht : P.underlying t = some (.slice e)) (he : P.underlying e = some (.int k)) (hc : P.cellsOf e = 1) {r : Reach} {b0 : Nat} (hval : Value.okWide P W r b0 t v)
    (h : DataW.Trod enc P W 0 (fun _ => true) true t v d p) : ∃ zs : List Int, zs.length ≤ 9223372036854775807 ∧ DR W (fun _ => False) (.slice (zs.map fun x => [.lit (.int k x)])) v := by
  obtain ⟨fuel, h⟩ := h
  obtain ⟨a, len, cap, rfl⟩ := okWide_slice ht hval
  rcases open_ints ht he hc h with ⟨hcs, hx⟩ | ⟨a', len', cap', zs, hcs, hb, hl, hm, hzl, hx, hcell, hwf⟩
  · simp [Value.cells] at hcs
    obtain ⟨rfl, rfl, rfl⟩ := hcs
    exact ⟨[], by simp, .nil none 0⟩
  · simp [Value.cells] at hcs
    obtain ⟨rfl, rfl, rfl⟩ := hcs
    simp only [if_true] at hzl
    refine ⟨zs.take len, by simp [maxLen] at hm ⊢; omega, ?_⟩
    by_cases h0 : len = 0
    · subst h0
      simp only [List.take_zero, List.map_nil]
      exact .nil _ cap
    · obtain ⟨g, o, sp⟩ := a'
      have hc0 := hcell 0 (by omega)
      simp only [Addr.add, if_true, World.cell?] at hc0
      have hg : g < W.heap.size := by
        cases hq : W.heap[g]? with
        | none => rw [hq] at hc0; simp at hc0
        | some q => exact (Array.getElem?_eq_some_iff.1 hq).1
      have hsp : sp = none := by
        cases sp with
        | none => rfl
        | some q =>
          cases hq : W.heap[g]? with
          | none => rw [hq] at hc0; simp at hc0
          | some b => rw [hq] at hc0; cases b <;> simp at hc0
      subst hsp
      have hlen : ((zs.take len).map fun x => [D.lit (.int k x)]).length = len := by simp; omega
      have := DR.slice (w := W) (own := fun _ => False) ((zs.take len).map fun x => [D.lit (.int k x)]) g o cap 1 (fun i _ => .int k (zs.getD i 0)) (by rw [hlen]; exact hl) (fun f => f) hg
        (by intro x hx; simp only [List.mem_map] at hx; obtain ⟨y, _, rfl⟩ := hx; rfl)
        (by
          intro i hi j hj
          rw [hlen] at hi
          obtain rfl : j = 0 := by omega
          have := hcell i (by omega)
          rw [Go.Ab.addr_add] at this
          simp only [Nat.mul_one, Nat.add_zero]
          exact ⟨this, rfl⟩)
        (by
          intro i x hx j y hy
          have hi : i < len := by have := (List.getElem?_eq_some_iff.1 hx).1; rw [hlen] at this; exact this
          rw [List.getElem?_map, List.getElem?_take, if_pos hi] at hx
          obtain ⟨z, hz⟩ : ∃ z, zs[i]? = some z := ⟨_, List.getElem?_eq_getElem (by omega)⟩
          rw [hz] at hx
          simp at hx; subst hx
          cases j with
          | succ j => simp at hy
          | zero =>
            simp at hy; subst hy
            rw [List.getD, hz]
            exact .lit _ rfl)
      rw [hlen] at this
      exact this
end

/-- a call from outside -/
theorem law_run {P : Program} {f : FuncId} {ps : List PV} {vs : List Value} (h : PureF P f ps (B true)) (W : World) (hl : ps.length = vs.length) (ha : ∀ (j : Nat) (p : PV) (v : Value), ps[j]? = some p → vs[j]? = some v → PR (fun _ => undef) W (fun _ => False) p v) :
    Calls P f vs.toArray W fun e W' => e = .returned (.bool true) ∧ ∃ own', Ext W (fun _ => False) W' own' := by
  have h0 : HR (fun _ _ => none) (fun _ => undef) (fun _ => False) W := by
    refine ⟨fun n b hb => ?_, fun n m bn bm hn => ?_, fun g hg => hg.elim⟩
    · cases n with | mk a b' => cases a <;> simp [lookF] at hb
    · cases n with | mk a b' => cases a <;> simp [lookF] at hn
  refine ((h (fun _ _ => none)).run (fun _ => undef) (fun _ => False) W vs h0 ⟨hl, ha⟩).mono fun e W' ⟨v, r, H', own', he, ⟨hr, _⟩, hv, _, hE⟩ => ?_
  subst hr
  cases hv with
  | v _ _ hp => exact ⟨by rw [he, PR.lit hp], own', hE⟩
end Go.Ab
