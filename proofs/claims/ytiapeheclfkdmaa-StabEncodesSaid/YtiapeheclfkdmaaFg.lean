/- The framework of this proof, fifth part: data handed in, the sort of numbers, rounds of a loop over a function, variables handed to callers. -/
import Derived.Test.YtiapeheclfkdmaaFe
import Derived.Test.YtiapeheclfkdmaaFd
import Derived.Sort.Row
import Derived.Sort.Grow
import Derived.Laws.Pointers
set_option linter.all false
set_option linter.unusedVariables false
set_option linter.unusedSimpArgs false
namespace Go.Ab
set_option linter.unusedVariables false
set_option linter.unusedSimpArgs false
theorem eff_swap {P : Program} {g : FuncId} {ps : List PV} {a b : Nm × Blk} {bs hs : List (Nm × Blk)} {p : PV} (h : Eff1 P g ps (a :: b :: bs) hs p) : Eff1 P g ps (b :: a :: bs) hs p :=
  fun H hH => h H fun q hq => hH q (by simp only [List.mem_cons] at hq ⊢; rcases hq with h | h | h <;> simp [h])
end Go.Ab
namespace Go.Ab
open Go.ChangeShapes Go.WideShapes Go.ChangeAt Go.RowKit
set_option linter.unusedVariables false
set_option linter.unusedSimpArgs false

/-- what data of a type looks like: cells -/
inductive Sh (P : Program) : TypeId → List D → Prop where
  | int (t : TypeId) (k : IntKind) (z : Int) (ht : P.underlying t = some (.int k)) (h1 : k.min ≤ z) (h2 : z ≤ k.max) : Sh P t [.lit (.int k z)]
  | bool (t : TypeId) (b : Bool) (ht : P.underlying t = some .bool) : Sh P t [.lit (.bool b)]
  | str (t : TypeId) (s : ByteArray) (ht : P.underlying t = some .string) (hs : s.size ≤ maxLen) : Sh P t [.lit (.string s)]
  | slice (t e : TypeId) (xs : List (List D)) (ht : P.underlying t = some (.slice e)) (hl : xs.length ≤ maxLen) (hx : ∀ x ∈ xs, Sh P e x) : Sh P t [.slice xs]
  | struct (t : TypeId) (fs : List Field) (parts : List (List D)) (ht : P.underlying t = some (.struct fs.toArray)) (hl : parts.length = fs.length) (hp : ∀ (i : Nat) (f : Field) (x : List D), fs[i]? = some f → parts[i]? = some x → Sh P f.type x) : Sh P t parts.flatten

def layB (P : Program) : Nat → List Field → Option Nat
  | o, [] => some o
  | o, f :: r => if f.offset = o then layB P (o + P.cellsOf f.type) r else none
/-- types of data, closed under their parts -/
def closedB (P : Program) (G : List TypeId) : Bool := G.all fun t => match P.underlying t with
  | some .bool => true
  | some (.int _) => true
  | some .string => true
  | some (.slice e) => G.contains e && decide (0 < P.cellsOf e)
  | some (.struct fs) => fs.toList.all (fun f => G.contains f.type) && layB P 0 fs.toList == some (P.cellsOf t)
  | _ => false

def CD (w : World) (own : Nat → Prop) (ds : List D) (cs : List Value) : Prop :=
  ds.length = cs.length ∧ (∀ v ∈ cs, v.oneCell' = true) ∧ ∀ (j : Nat) (x : D) (v : Value), ds[j]? = some x → cs[j]? = some v → DR w own x v
theorem CD.one {w : World} {own : Nat → Prop} {x : D} {v : Value} (h : DR w own x v) (h1 : v.oneCell' = true) : CD w own [x] [v] :=
  ⟨rfl, by simpa using h1, fun j y u hy hu => by
    cases j with
    | zero => simp at hy hu; subst hy; subst hu; exact h
    | succ j => simp at hy⟩
theorem CD.nil {w : World} {own : Nat → Prop} : CD w own [] [] := ⟨rfl, by simp, by simp⟩
theorem CD.append {w : World} {own : Nat → Prop} {a b : List D} {u v : List Value} (h : CD w own a u) (h' : CD w own b v) : CD w own (a ++ b) (u ++ v) := by
  refine ⟨by simp [h.1, h'.1], fun x hx => ?_, fun j x y hx hy => ?_⟩
  · rw [List.mem_append] at hx
    exact hx.elim (h.2.1 x) (h'.2.1 x)
  · by_cases hj : j < a.length
    · rw [List.getElem?_append_left hj] at hx
      rw [List.getElem?_append_left (by rw [← h.1]; exact hj)] at hy
      exact h.2.2 j x y hx hy
    · rw [List.getElem?_append_right (by omega)] at hx
      rw [List.getElem?_append_right (by rw [← h.1]; omega)] at hy
      rw [← h.1] at hy
      exact h'.2.2 _ x y hx hy

theorem lay_cat {P : Program} (cs : List Value) : ∀ (fs : List Field) (o e : Nat), layB P o fs = some e → e ≤ cs.length → (fs.map fun f => (cs.drop f.offset).take (P.cellsOf f.type)).flatten = (cs.drop o).take (e - o) ∧ o ≤ e
  | [], o, e, h, he => by simp [layB] at h; subst h; simp
  | f :: r, o, e, h, he => by
    rw [layB] at h
    split at h
    · rename_i ho
      obtain ⟨h1, h2⟩ := lay_cat cs r _ e h he
      refine ⟨?_, by omega⟩
      rw [List.map_cons, List.flatten_cons, h1, ho, show e - o = P.cellsOf f.type + (e - (o + P.cellsOf f.type)) by omega, List.take_add, List.drop_drop]
    · cases h

variable {H : Type} {enc : TypeId × Value → H} {P : Program}
theorem cd_flat {w : World} {own : Nat → Prop} : ∀ (parts : List (List D)) (vs : List (List Value)), parts.length = vs.length → (∀ (i : Nat) (a : List D) (b : List Value), parts[i]? = some a → vs[i]? = some b → CD w own a b) → CD w own parts.flatten vs.flatten
  | [], [], _, _ => CD.nil
  | a :: p, b :: v, hl, h => by
    rw [List.flatten_cons, List.flatten_cons]
    exact (h 0 a b rfl rfl).append (cd_flat p v (by simpa using hl) fun i x y hx hy => h (i + 1) x y (by simpa using hx) (by simpa using hy))
  | [], _ :: _, h, _ => by simp at h
  | _ :: _, [], h, _ => by simp at h
theorem list_choose {α β : Type} {p : Nat → α → β → Prop} : ∀ (l : List α) (o : Nat), (∀ (i : Nat) (a : α), l[i]? = some a → ∃ b, p (o + i) a b) → ∃ r : List β, r.length = l.length ∧ ∀ (i : Nat) (a : α) (b : β), l[i]? = some a → r[i]? = some b → p (o + i) a b
  | [], o, h => ⟨[], rfl, by simp⟩
  | x :: l, o, h => by
    obtain ⟨b, hb⟩ := h 0 x rfl
    obtain ⟨r, h1, h2⟩ := list_choose l (o + 1) fun i a ha => by
      obtain ⟨c, hc⟩ := h (i + 1) a (by simpa using ha)
      exact ⟨c, by rw [show o + 1 + i = o + (i + 1) by omega]; exact hc⟩
    refine ⟨b :: r, by simp [h1], fun i a c ha hc => ?_⟩
    cases i with
    | zero => simp at ha hc; subst ha; subst hc; exact hb
    | succ i =>
      have := h2 i a c (by simpa using ha) (by simpa using hc)
      rw [show o + (i + 1) = o + 1 + i by omega]; exact this

theorem sh_in {W : World} {base : Nat} {sp : Nat → Bool} {held : Bool} {G : List TypeId} (hG : closedB P G = true) : ∀ (fuel : Nat) (t : TypeId) (cs : List Value) (x : DataW H × List MemPlace), t ∈ G → DataW.trod enc P W base sp held fuel t cs = some x →
    ∃ ds, Sh P t ds ∧ CD W (fun _ => False) ds cs := by
  intro fuel
  induction fuel using Nat.strongRecOn with
  | _ fuel ih =>
  intro t cs x ht h
  have hg := List.all_eq_true.1 hG t ht
  cases hu : P.underlying t with
  | none => rw [hu] at hg; simp at hg
  | some u =>
    rw [hu] at hg
    cases u with
    | bool =>
      obtain ⟨b, rfl, _⟩ := DataW.trod_bool hu h
      exact ⟨_, .bool t b hu, .one (.lit _ rfl) rfl⟩
    | int k =>
      obtain ⟨z, rfl, _, hw⟩ := DataW.trod_int hu h
      simp only [Lit.wf, Bool.and_eq_true, decide_eq_true_eq] at hw
      exact ⟨_, .int t k z hu hw.1 hw.2, .one (.lit _ rfl) rfl⟩
    | string =>
      obtain ⟨s, rfl, _, hs⟩ := DataW.trod_string hu h
      exact ⟨_, .str t s hu hs, .one (.lit _ rfl) rfl⟩
    | slice e =>
      simp only [Bool.and_eq_true, decide_eq_true_eq] at hg
      obtain ⟨he, hc0⟩ := hg
      have he : e ∈ G := List.contains_iff_mem.1 he
      rcases DataW.trod_slice hu h with ⟨rfl, _⟩ | ⟨a, len, cap, elems, rest, n, hfu, rfl, _, hb, hl, hm, hlen, hel, _⟩
      · exact ⟨_, .slice t e [] hu (by simp) (by simp), .one (.nil none 0) rfl⟩
      · by_cases h0 : len = 0
        · subst h0
          exact ⟨_, .slice t e [] hu (by simp) (by simp), .one (.nil _ _) rfl⟩
        have each : ∀ i, i < len → ∃ cs' : List Value, W.cells? base (a.add (i * P.cellsOf e)) (P.cellsOf e) = some cs' ∧ ∃ ds, Sh P e ds ∧ CD W (fun _ => False) ds cs' := fun i hi => by
          have h1 := hel i hi
          rw [List.getElem?_eq_getElem (by omega)] at h1
          obtain ⟨cs', h2, h3⟩ := Option.bind_eq_some_iff.1 h1
          exact ⟨cs', h2, ih n (by omega) e cs' _ he h3⟩
        obtain ⟨r, hr1, hr2⟩ := list_choose (p := fun i (_ : Nat) (b : List D × List Value) => W.cells? base (a.add (i * P.cellsOf e)) (P.cellsOf e) = some b.2 ∧ Sh P e b.1 ∧ CD W (fun _ => False) b.1 b.2) (List.range len) 0 fun i q hq => by
          have : i < len := by have := (List.getElem?_eq_some_iff.1 hq).1; simpa using this
          obtain ⟨cs', h2, ds, h3, h4⟩ := each i this
          exact ⟨(ds, cs'), by simpa using h2, h3, h4⟩
        rw [List.length_range] at hr1
        have hr : ∀ (i : Nat) (b : List D × List Value), r[i]? = some b → W.cells? base (a.add (i * P.cellsOf e)) (P.cellsOf e) = some b.2 ∧ Sh P e b.1 ∧ CD W (fun _ => False) b.1 b.2 := fun i b hb => by
          have hi : i < len := by have := (List.getElem?_eq_some_iff.1 hb).1; omega
          have := hr2 i i b (List.getElem?_range hi) hb
          simpa using this
        obtain ⟨g, o, spn⟩ := a
        obtain ⟨b0, hb0⟩ : ∃ b0, r[0]? = some b0 := ⟨_, List.getElem?_eq_getElem (by omega)⟩
        have hc := (World.cells?_some (hr 0 b0 hb0).1).2.2 0 hc0
        have hlen0 := (World.cells?_some (hr 0 b0 hb0).1).2.1
        simp only [Nat.zero_mul, Addr.add, if_true, World.cell?] at hc
        rw [List.getElem?_eq_getElem (by omega)] at hc
        have hg' : g < W.heap.size := by
          cases hq : W.heap[g]? with
          | none => rw [hq] at hc; simp at hc
          | some q => exact (Array.getElem?_eq_some_iff.1 hq).1
        have hsp : spn = none := by
          cases spn with
          | none => rfl
          | some q =>
            cases hq : W.heap[g]? with
            | none => rw [hq] at hc; simp at hc
            | some b => rw [hq] at hc; cases b <;> simp at hc
        subst hsp
        have hxl : (r.map (·.1)).length = len := by simp [hr1]
        refine ⟨[.slice (r.map (·.1))], .slice t e _ hu (by rw [hxl]; omega) (fun x hx => ?_), .one ?_ rfl⟩
        · simp only [List.mem_map] at hx
          obtain ⟨b, hb, rfl⟩ := hx
          obtain ⟨i, hi⟩ := List.getElem?_of_mem hb
          exact (hr i b hi).2.1
        · have := DR.slice (w := W) (own := fun _ => False) (r.map (·.1)) g o cap (P.cellsOf e) (fun i j => ((r.getD i ([], [])).2).getD j undef) (by rw [hxl]; exact hl) (fun f => f) hg'
            (by
              intro x hx
              simp only [List.mem_map] at hx
              obtain ⟨b, hb, rfl⟩ := hx
              obtain ⟨i, hi⟩ := List.getElem?_of_mem hb
              rw [(hr i b hi).2.2.1]; exact (World.cells?_some (hr i b hi).1).2.1)
            (by
              intro i hi j hj
              rw [hxl] at hi
              obtain ⟨b, hb⟩ : ∃ b, r[i]? = some b := ⟨_, List.getElem?_eq_getElem (by omega)⟩
              have hg1 : r.getD i ([], []) = b := by rw [List.getD, hb]; rfl
              obtain ⟨k1, k2, k3⟩ := hr i b hb
              obtain ⟨_, q2, q3⟩ := World.cells?_some k1
              have := q3 j hj
              rw [Go.Ab.addr_add, Go.Ab.addr_add, Nat.add_assoc] at this
              rw [hg1]
              obtain ⟨v, hv⟩ : ∃ v, b.2[j]? = some v := ⟨_, List.getElem?_eq_getElem (by omega)⟩
              have hgv : b.2.getD j undef = v := by rw [List.getD, hv]; rfl
              rw [hgv]
              exact ⟨this.trans hv, k3.2.1 v (List.mem_of_getElem? hv)⟩)
            (by
              intro i x hx j y hy
              rw [List.getElem?_map] at hx
              cases hb : r[i]? with
              | none => rw [hb] at hx; simp at hx
              | some b =>
                rw [hb] at hx; simp at hx; subst hx
                have hg1 : r.getD i ([], []) = b := by rw [List.getD, hb]; rfl
                obtain ⟨k1, k2, k3⟩ := hr i b hb
                have hj : j < b.2.length := by rw [← k3.1]; exact (List.getElem?_eq_some_iff.1 hy).1
                obtain ⟨v, hv⟩ : ∃ v, b.2[j]? = some v := ⟨_, List.getElem?_eq_getElem hj⟩
                have hgv : b.2.getD j undef = v := by rw [List.getD, hv]; rfl
                rw [hg1, hgv]
                exact k3.2.2 j y v hy hv)
          rw [hxl] at this
          exact this
    | struct fs =>
      simp only [Bool.and_eq_true, beq_iff_eq] at hg
      obtain ⟨hfs, hlay⟩ := hg
      obtain ⟨xs, n, hfu, _, hcl, hxl, hf⟩ := DataW.trod_struct hu h
      obtain ⟨r, hr1, hr2⟩ := list_choose (p := fun i (f : Field) (b : List D) => Sh P f.type b ∧ CD W (fun _ => False) b ((cs.drop f.offset).take (P.cellsOf f.type))) fs.toList 0 fun i f hif => by
        have h1 := hf i f (by simpa using hif)
        have hi : i < fs.size := by have := (List.getElem?_eq_some_iff.1 hif).1; simpa using this
        rw [List.getElem?_eq_getElem (by omega)] at h1
        have hfg : f.type ∈ G := List.contains_iff_mem.1 (List.all_eq_true.1 hfs f (List.mem_of_getElem? hif))
        obtain ⟨ds, h2, h3⟩ := ih n (by omega) f.type _ _ hfg h1
        exact ⟨ds, h2, h3⟩
      obtain ⟨e1, _⟩ := lay_cat cs fs.toList 0 _ hlay (by omega)
      rw [List.drop_zero, Nat.sub_zero, ← hcl, List.take_length] at e1
      refine ⟨r.flatten, .struct t fs.toList r (by simpa using hu) hr1 (fun i f x h1 h2 => (hr2 i f x h1 h2).1), ?_⟩
      rw [← e1]
      refine cd_flat r _ (by simp [hr1]) fun i a b ha hb => ?_
      rw [List.getElem?_map] at hb
      cases hif : fs.toList[i]? with
      | none => rw [hif] at hb; simp at hb
      | some f => rw [hif] at hb; simp at hb; subst hb; exact (hr2 i f a hif ha).2
    | _ => simp at hg
/-- one value that came in -/
theorem in_data {W : World} {t : TypeId} {v : Value} {d : DataW H} {p : List MemPlace} {r : Reach} {b0 : Nat} {G : List TypeId} (hG : closedB P G = true) (ht : G.contains t = true) (hval : Value.okWide P W r b0 t v)
    (h : DataW.Trod enc P W 0 (fun _ => true) true t v d p) : ∃ ds, Sh P t ds ∧ ((∃ fs, P.underlying t = some (.struct fs)) → DR W (fun _ => False) (.agg ds) v) ∧ (∀ x, ds = [x] → (∀ fs, P.underlying t ≠ some (.struct fs)) → DR W (fun _ => False) x v) := by
  obtain ⟨fuel, h⟩ := h
  obtain ⟨ds, h1, h2⟩ := sh_in hG fuel t _ _ (List.contains_iff_mem.1 ht) h
  refine ⟨ds, h1, fun ⟨fs, hs⟩ => ?_, fun x hx hn => ?_⟩
  · obtain ⟨cs, rfl, _⟩ := okWide_struct hs hval
    simp only [Value.cells] at h2
    have := DR.agg ds cs.toList h2.1 h2.2.1 h2.2.2
    simpa using this
  · subst hx
    have hc : v.cells.toList = [v] := by
      have hg := List.all_eq_true.1 hG t (List.contains_iff_mem.1 ht)
      cases hu : P.underlying t with
      | none => rw [hu] at hg; simp at hg
      | some u =>
        rw [hu] at hg
        cases u with
        | bool => obtain ⟨b, rfl⟩ := okWide_bool hu hval; rfl
        | int k => obtain ⟨b, rfl⟩ := okWide_int hu hval; rfl
        | string => obtain ⟨b, rfl⟩ := okWide_string hu hval; rfl
        | slice e => obtain ⟨a, l, c, rfl⟩ := okWide_slice hu hval; rfl
        | struct fs => exact absurd hu (hn fs)
        | _ => simp at hg
    rw [hc] at h2
    exact h2.2.2 0 x v rfl rfl
theorem Sh.inv_int {t : TypeId} {ds : List D} {k : IntKind} (h : Sh P t ds) (ht : P.underlying t = some (.int k)) : ∃ z : Int, ds = [.lit (.int k z)] ∧ k.min ≤ z ∧ z ≤ k.max := by
  cases h with
  | int _ k' z h1 h2 h3 => rw [ht] at h1; simp at h1; subst h1; exact ⟨z, rfl, h2, h3⟩
  | bool _ b h1 => rw [ht] at h1; simp at h1
  | str _ s h1 => rw [ht] at h1; simp at h1
  | slice _ e xs h1 => rw [ht] at h1; simp at h1
  | struct _ fs p h1 => rw [ht] at h1; simp at h1
theorem Sh.inv_bool {t : TypeId} {ds : List D} (h : Sh P t ds) (ht : P.underlying t = some .bool) : ∃ b : Bool, ds = [.lit (.bool b)] := by
  cases h with
  | int _ k' z h1 h2 h3 => rw [ht] at h1; simp at h1
  | bool _ b h1 => exact ⟨b, rfl⟩
  | str _ s h1 => rw [ht] at h1; simp at h1
  | slice _ e xs h1 => rw [ht] at h1; simp at h1
  | struct _ fs p h1 => rw [ht] at h1; simp at h1
theorem Sh.inv_str {t : TypeId} {ds : List D} (h : Sh P t ds) (ht : P.underlying t = some .string) : ∃ s : ByteArray, ds = [.lit (.string s)] ∧ s.size ≤ maxLen := by
  cases h with
  | int _ k' z h1 h2 h3 => rw [ht] at h1; simp at h1
  | bool _ b h1 => rw [ht] at h1; simp at h1
  | str _ s h1 hs => exact ⟨s, rfl, hs⟩
  | slice _ e xs h1 => rw [ht] at h1; simp at h1
  | struct _ fs p h1 => rw [ht] at h1; simp at h1
theorem Sh.inv_slice {t e : TypeId} {ds : List D} (h : Sh P t ds) (ht : P.underlying t = some (.slice e)) : ∃ xs : List (List D), ds = [.slice xs] ∧ xs.length ≤ maxLen ∧ ∀ x ∈ xs, Sh P e x := by
  cases h with
  | int _ k' z h1 h2 h3 => rw [ht] at h1; simp at h1
  | bool _ b h1 => rw [ht] at h1; simp at h1
  | str _ s h1 hs => rw [ht] at h1; simp at h1
  | slice _ e' xs h1 h2 h3 => rw [ht] at h1; simp at h1; subst h1; exact ⟨xs, rfl, h2, h3⟩
  | struct _ fs p h1 => rw [ht] at h1; simp at h1
/-- a slice whose elements are of a known form -/
theorem Sh.inv_list {t e : TypeId} {ds : List D} {α : Type} (f : α → List D) (Q : α → Prop) (h : Sh P t ds) (ht : P.underlying t = some (.slice e)) (he : ∀ x, Sh P e x → ∃ a, x = f a ∧ Q a) : ∃ l : List α, ds = [.slice (l.map f)] ∧ l.length ≤ 9223372036854775807 ∧ ∀ a ∈ l, Q a := by
  obtain ⟨xs, rfl, h1, h2⟩ := h.inv_slice ht
  have : ∀ xs : List (List D), (∀ x ∈ xs, Sh P e x) → ∃ l : List α, xs = l.map f ∧ ∀ a ∈ l, Q a := by
    intro xs
    induction xs with
    | nil => exact fun _ => ⟨[], rfl, by simp⟩
    | cons x xs ih =>
      intro h
      obtain ⟨a, ha, hq⟩ := he x (h x (by simp))
      obtain ⟨l, hl, hq'⟩ := ih fun y hy => h y (by simp [hy])
      exact ⟨a :: l, by rw [ha, hl]; rfl, by simpa using ⟨hq, hq'⟩⟩
  obtain ⟨l, hl, hq⟩ := this xs h2
  refine ⟨l, by rw [hl], ?_, hq⟩
  have := congrArg List.length hl
  simp [maxLen] at this h1 ⊢
  omega
/-- cells of several types, one behind another -/
def ShL (P : Program) : List TypeId → List D → Prop
  | [], ds => ds = []
  | t :: ts, ds => ∃ a b, ds = a ++ b ∧ Sh P t a ∧ ShL P ts b
theorem Sh.inv_struct {t : TypeId} {ds : List D} {fs : Array Field} (h : Sh P t ds) (ht : P.underlying t = some (.struct fs)) : ShL P (fs.toList.map (·.type)) ds := by
  cases h with
  | int _ k' z h1 h2 h3 => rw [ht] at h1; simp at h1
  | bool _ b h1 => rw [ht] at h1; simp at h1
  | str _ s h1 hs => rw [ht] at h1; simp at h1
  | slice _ e' xs h1 h2 h3 => rw [ht] at h1; simp at h1
  | struct _ fs' p h1 hl hp =>
    rw [ht] at h1; simp at h1
    subst h1
    have : ∀ (fs : List Field) (p : List (List D)), p.length = fs.length → (∀ (i : Nat) (f : Field) (x : List D), fs[i]? = some f → p[i]? = some x → Sh P f.type x) → ShL P (fs.map (·.type)) p.flatten := by
      intro fs
      induction fs with
      | nil => intro p hl _; cases p with | nil => rfl | cons _ _ => simp at hl
      | cons f fs ih =>
        intro p hl hp
        cases p with
        | nil => simp at hl
        | cons x p =>
          exact ⟨x, p.flatten, rfl, hp 0 f x rfl rfl, ih p (by simpa using hl) fun i g y h1 h2 => hp (i + 1) g y (by simpa using h1) (by simpa using h2)⟩
    simpa using this fs' p hl hp
def fieldTypes (P : Program) (t : TypeId) : Option (List TypeId) := match P.underlying t with
  | some (.struct fs) => some (fs.toList.map (·.type))
  | _ => none
theorem fieldTypes_some {t : TypeId} {ts : List TypeId} (h : fieldTypes P t = some ts) : ∃ fs, P.underlying t = some (.struct fs) ∧ fs.toList.map (·.type) = ts := by
  unfold fieldTypes at h
  cases hu : P.underlying t with
  | none => rw [hu] at h; simp at h
  | some u =>
    rw [hu] at h
    cases u <;> simp at h
    exact ⟨_, rfl, by simpa using h⟩
theorem Sh.inv_fields {t : TypeId} {ds : List D} {ts : List TypeId} (h : Sh P t ds) (ht : fieldTypes P t = some ts) : ShL P ts ds := by
  obtain ⟨fs, h1, h2⟩ := fieldTypes_some ht
  rw [← h2]; exact h.inv_struct h1
theorem in_struct {W : World} {t : TypeId} {v : Value} {d : DataW H} {p : List MemPlace} {r : Reach} {b0 : Nat} {G ts : List TypeId} (hG : closedB P G = true) (ht : G.contains t = true) (hf : fieldTypes P t = some ts) (hval : Value.okWide P W r b0 t v)
    (h : DataW.Trod enc P W 0 (fun _ => true) true t v d p) : ∃ ds, ShL P ts ds ∧ DR W (fun _ => False) (.agg ds) v := by
  obtain ⟨ds, h1, h2, _⟩ := in_data hG ht hval h
  obtain ⟨fs, h3, h4⟩ := fieldTypes_some hf
  exact ⟨ds, h1.inv_fields hf, h2 ⟨fs, h3⟩⟩
theorem in_one {W : World} {t : TypeId} {v : Value} {d : DataW H} {p : List MemPlace} {r : Reach} {b0 : Nat} {G : List TypeId} (hG : closedB P G = true) (ht : G.contains t = true) (hf : fieldTypes P t = none) (hval : Value.okWide P W r b0 t v)
    (h : DataW.Trod enc P W 0 (fun _ => true) true t v d p) : ∃ ds, Sh P t ds ∧ ∀ x, ds = [x] → DR W (fun _ => False) x v := by
  obtain ⟨ds, h1, _, h2⟩ := in_data hG ht hval h
  exact ⟨ds, h1, fun x hx => h2 x hx fun fs hs => by simp [fieldTypes, hs] at hf⟩
end Go.Ab
namespace Go.Ab
open Go.RowKit Go.Sort
set_option linter.unusedVariables false
set_option linter.unusedSimpArgs false

theorem frozen_of {w : World} {g : Nat} {cur : Array Value} {e : TypeId} {off : Nat} (h : w.heap[g]? = some (.cells cur e (0, 0))) : w.frozen? ⟨g, off, none⟩ = false := by
  simp [World.frozen?, h]
theorem cell_of {w : World} {g : Nat} {cur : Array Value} {e : TypeId} {off : Nat} (h : w.heap[g]? = some (.cells cur e (0, 0))) : w.cell? ⟨g, off, none⟩ = cur[off]? := by
  simp [World.cell?, h]
theorem plain_spec {P : Program} {g : FuncId} {ps : List PV} {bs hs : List (Nm × Blk)} {p : PV} (hp : Plain P g)
    (h : ∀ (H : Hf), (∀ q ∈ bs, H q.1.1 q.1.2 = some q.2) → ∀ β own w vals, HR H β own w → ArgsR β w own ps vals → Calls P g vals.toArray w (FinS (fun r H' => r = .v p ∧ H' = updL H hs) β own w)) : Eff1 P g ps bs hs p :=
  fun H hH => ⟨hp, h H hH⟩
theorem eff_sort {P : Program} {f : FuncId} {e : TypeId} (hp : Plain P f)
    (hcall : ∀ (blk off cap : Nat) (zs : List Int) (w : World), Holds (Value.int .i64) w blk off zs.toArray → blk < w.heap.size → zs.length < 4611686018427387904 →
      Calls P f #[.slice (some ⟨blk, off, none⟩) zs.length cap] w fun e w' => e = .returned (.tuple #[]) ∧ ∃ n os, w' = grow (putRow (Value.int .i64) (Sort.ahead w n) blk off (zs.mergeSort fun x y => decide (x ≤ y)).toArray) os)
    (hnone : ∀ (p : Option Addr) (cap : Nat) (w : World), Calls P f #[.slice p 0 cap] w fun e w' => e = .returned (.tuple #[]) ∧ w' = w)
    (x : Nat) (q : List Int) (hq : q.length < 4611686018427387904) :
    Eff1 P f [.ref (0, x)] [((0, x), .row e 1 (q.map fun x => [.lit (.int .i64 x)]))] [((0, x), .row e 1 ((q.mergeSort fun x y => decide (x ≤ y)).map fun x => [.lit (.int .i64 x)]))] (.tup []) := by
  refine plain_spec hp fun H hH β own w vals hHR hA => ?_
  have hH0 := hH ((0, x), .row e 1 (q.map fun x => [.lit (.int .i64 x)])) (by simp)
  obtain ⟨hl, ha⟩ := hA
  obtain ⟨v, rfl⟩ : ∃ v, vals = [v] := by
    match vals, hl with
    | [v], _ => exact ⟨v, rfl⟩
  have hv := ha 0 _ v rfl rfl
  have hv : v = β (0, x) := by cases hv with | ref _ => rfl
  subst hv
  have hblk := hHR.blk (0, x) _ (show lookF H (0, x) = some _ from hH0)
  obtain ⟨vv, hvv⟩ : ∃ vv, β (0, x) = vv := ⟨_, rfl⟩
  rw [hvv] at hblk
  obtain ⟨S, hS⟩ : ∃ S, (q.mergeSort fun x y => decide (x ≤ y)) = S := ⟨_, rfl⟩
  have hSl : S.length = q.length := by rw [← hS]; exact List.length_mergeSort q
  rw [hS]
  have fin : ∀ w', Ext w own w' own → HR (upd H (0, x) (.row e 1 (S.map fun x => [.lit (.int .i64 x)]))) β own w' → FinS (fun r H' => r = .v (.tup []) ∧ H' = updL H [((0, x), .row e 1 (S.map fun x => [.lit (.int .i64 x)]))]) β own w (.returned (.tuple #[])) w' := fun w' hE hR =>
    ⟨_, _, _, own, rfl, ⟨rfl, rfl⟩, .v _ _ (.tup [] [] rfl (by simp)), hR, hE⟩
  by_cases h0 : q = []
  · subst h0
    obtain rfl : S = [] := by simpa using hSl
    have hr := hblk
    cases hr with
    | row _ _ _ _ vs ho hk hown hd =>
      have hcl : ∃ p cap, vv = .slice p 0 cap := by
        rcases hown.2 with ⟨h1, _⟩ | ⟨g, cap, cur, h1, _⟩
        · exact ⟨none, 0, h1⟩
        · exact ⟨_, cap, by simpa using h1⟩
      obtain ⟨p, cap, hcl⟩ := hcl
      rw [hvv, hcl]
      refine (hnone p cap w).mono ?_
      rintro e' w' ⟨rfl, rfl⟩
      refine fin _ (Ext.refl _ _) ?_
      rw [upd_id (m := (0, x)) hH0]
      exact hHR
  · have hr := hblk
    cases hr with
    | row _ _ _ _ vs ho hk hown hd =>
      have hql : 0 < q.length := List.length_pos_iff.2 h0
      rcases hown.2 with ⟨_, h1⟩ | ⟨g, cap, cur, h1, _, hg, hcap, hmax, hcs, htake⟩
      · simp at h1; exact absurd h1 h0
      · rw [List.length_map] at h1 hcap
        have h1' := hvv.trans h1
        have hvs : ∀ (j : Nat) (z : Int), q[j]? = some z → cur[j]? = some (.int .i64 z) := fun j z hz => by
          obtain ⟨v, hv1, hv2⟩ := hd.2.2.2 j [.lit (.int .i64 z)] (by rw [List.getElem?_map, hz]; rfl) 0 _ rfl
          rw [Nat.mul_one, Nat.add_zero, ← htake, List.length_map, Nat.mul_one] at hv1
          have hj := (List.getElem?_eq_some_iff.1 hz).1
          rw [List.getElem?_take_of_lt hj] at hv1
          have : v = .int .i64 z := by cases hv2 with | lit _ _ => rfl
          subst this
          simpa using hv1
        have hholds : Holds (Value.int .i64) w g 0 q.toArray := fun j hj => by
          have hj : j < q.length := by simpa using hj
          refine ⟨?_, frozen_of hg⟩
          rw [cell_of hg, Nat.zero_add, hvs j q[j] (List.getElem?_eq_getElem hj)]
          simp [hj]
        have hgl : g < w.heap.size := (Array.getElem?_eq_some_iff.1 hg).1
        rw [h1']
        refine (hcall g 0 cap q w hholds hgl hq).mono ?_
        rintro e' w' ⟨rfl, n, os, rfl⟩
        rw [hS]
        obtain ⟨w1, hw1⟩ : ∃ w1, putRow (Value.int .i64) (Sort.ahead w n) g 0 S.toArray = w1 := ⟨_, rfl⟩
        rw [hw1]
        have hheap : ∀ k, w1.heap[k]? = if g = k then some (.cells (putCells (Value.int .i64) 0 S.toArray cur) e (0, 0)) else w.heap[k]? := fun k => by
          rw [← hw1]
          simp only [putRow, mapBlock, Sort.ahead, Array.getElem?_modify]
          split
          · rename_i hk; subst hk; rw [hg]; rfl
          · rfl
        have hsz : w1.heap.size = w.heap.size := by rw [← hw1]; simp [putRow, mapBlock, Sort.ahead]
        have hog : own g := ho g (by rw [h1]; rfl)
        have hE : Ext w own w1 own := by
          refine ⟨by rw [← hw1]; rfl, by rw [← hw1]; rfl, by rw [← hw1]; rfl, by omega, fun b hb hob => ?_, fun b hb hob => hob⟩
          rw [hheap, if_neg fun hh => hob (by rw [← hh]; exact hog)]
        have hput : ∀ j, j < S.length → (putCells (Value.int .i64) 0 S.toArray cur)[j]? = some (.int .i64 (S.getD j 0)) := fun j hj => by
          have hjc : j < cur.size := by rw [hcs]; omega
          simp only [putCells, Array.getElem?_mapIdx, Array.getElem?_eq_getElem hjc, Option.map_some]
          rw [if_pos (by simp; omega)]
          simp [hj, List.getD]
        have htk : ((putCells (Value.int .i64) 0 S.toArray cur).toList.take (S.length * 1)) = S.map (Value.int .i64) := by
          apply List.ext_getElem?
          intro j
          rw [Nat.mul_one, List.getElem?_take]
          by_cases hj : j < S.length
          · rw [if_pos hj, Array.getElem?_toList, hput j hj, List.getElem?_map, List.getElem?_eq_getElem hj]
            simp [List.getD, hj]
          · rw [if_neg hj, List.getElem?_eq_none (by simp; omega)]
        have hbr : BR β w1 own (β (0, x)) (.row e 1 (S.map fun x => [.lit (.int .i64 x)])) := by
          rw [h1']
          refine .row _ e 1 _ (S.map (Value.int .i64)) (fun g' hg' => by simp [Value.ownBlock] at hg'; subst hg'; exact hog) (by omega) ?_ ?_
          · refine ⟨by simp, .inr ⟨g, cap, putCells (Value.int .i64) 0 S.toArray cur, by rw [List.length_map, hSl], Nat.zero_le _, by rw [hheap, if_pos rfl], by rw [List.length_map, hSl]; exact hcap, hmax, by simp [putCells, hcs], ?_⟩⟩
            rw [List.length_map]; exact htk
          · refine ⟨fun y hy => ?_, by simp, fun v hv => ?_, fun i y hy j z hz => ?_⟩
            · simp only [List.mem_map] at hy; obtain ⟨_, _, rfl⟩ := hy; rfl
            · simp only [List.mem_map] at hv; obtain ⟨_, _, rfl⟩ := hv; rfl
            · rw [List.getElem?_map] at hy
              cases hs : S[i]? with
              | none => rw [hs] at hy; simp at hy
              | some s =>
                rw [hs] at hy; simp at hy; subst hy
                cases j with
                | succ j => simp at hz
                | zero =>
                  simp at hz; subst hz
                  exact ⟨.int .i64 s, by rw [Nat.mul_one, Nat.add_zero, List.getElem?_map, hs]; rfl, .lit _ rfl⟩
        have hR1 := hHR.change (m := (0, x)) (raw := .row e 1 (S.map fun x => [.lit (.int .i64 x)])) (show lookF H (0, x) = some _ from hH0) rfl hE hsz (fun g' hg' => by rw [hheap, if_neg fun hh => hg' (by rw [h1', hh]; rfl)]) (by rw [atF_row]; exact hbr)
        have hB : RowKit.Below w1.heap.size w1 (grow w1 os) := ⟨rfl, rfl, rfl, by simp [grow], fun k hk => by simp only [grow]; rw [Array.getElem?_append_left hk]⟩
        exact fin _ (hE.trans (Below.ext hB own)) (hR1.below hB)
end Go.Ab
namespace Go.Ab
set_option linter.unusedVariables false
set_option linter.unusedSimpArgs false
variable {P : Program} {f : FuncId} {R : Post} {k : List Item}
variable {n : Nat} {tm : List (Nat × PV)} {hp : Hp} {up : Hf}
def PV.takeF (m : Nm) (y : Nat) : PV → PV
  | .fn g first cap => .fn g (first.map (PV.take m y)) (cap.map (PV.take m y))
  | p => p.take m y
def takeTmF (m : Nm) (y : Nat) : List (Nat × PV) → List (Nat × PV)
  | [] => []
  | (t, p) :: r => (t, p.takeF m y) :: takeTmF m y r
theorem look_takeTmF {m : Nm} {y : Nat} : ∀ {tm : List (Nat × PV)} {t : Nat}, look (takeTmF m y tm) t = (look tm t).map (PV.takeF m y)
  | [], t => rfl
  | (k, p) :: r, t => by
    simp only [takeTmF, look]
    split
    · rfl
    · exact look_takeTmF
theorem PR.take {β : Nm → Value} {w : World} {own : Nat → Prop} {m : Nm} {y : Nat} {p : PV} {v : Value} (h : PR β w own p v) (hs : p.says (0, y) = false) : PR (setβ β y (β m)) w own (p.take m y) v := by
  have h2 := h.reβ (β' := setβ β y (β m)) (0, y) (setβ_ne β y _) hs
  cases p with
  | ptr q off =>
    simp only [PV.take]
    split
    · rename_i e; simp at e; subst e
      cases h with | ptr _ _ g hg => exact .ptr _ _ g (by rw [setβ_same]; exact hg)
    · exact h2
  | _ => exact h2
theorem PR.takeF {β : Nm → Value} {w : World} {own : Nat → Prop} {m : Nm} {y : Nat} {p : PV} {v : Value} (h : PR β w own p v) (hs : p.says (0, y) = false) : PR (setβ β y (β m)) w own (p.takeF m y) v := by
  cases p with
  | fn g first cap =>
    simp only [PV.says, Bool.or_eq_false_iff] at hs
    cases h with
    | fn _ _ _ fv cv h1 h2 h3 h4 =>
      refine .fn g _ _ fv cv (by simpa using h1) (by simpa using h2) (fun j x u hx hu => ?_) (fun j x u hx hu => ?_)
      · rw [List.getElem?_map] at hx
        cases hj : first[j]? with
        | none => rw [hj] at hx; simp at hx
        | some z => rw [hj] at hx; simp at hx; subst hx; exact (h3 j z u hj hu).take (PV.saysL_mem hs.1 hj)
      · rw [List.getElem?_map] at hx
        cases hj : cap[j]? with
        | none => rw [hj] at hx; simp at hx
        | some z => rw [hj] at hx; simp at hx; subst hx; exact (h4 j z u hj hu).take (PV.saysL_mem hs.2 hj)
  | _ => exact h.take hs
theorem r_takef (y md ms : Nat) {raw : Blk} (hb : up md ms = some raw) (hl : raw.live = true) (hfr : (freeHp y hp && freeTm y tm) = true)
    (h : Run P f R k ⟨n, (100000 + y, .al (0, y) (md + 1, ms)) :: takeTmF (md + 1, ms) y tm, (y, raw.lift (md + 1)) :: hp, upd up (md, ms) .gone⟩) : Run P f R k ⟨n, tm, hp, up⟩ := by
  refine Run.step (fun β own a w hr b cs => ⟨setβ β y (β (md + 1, ms)), own, a, w, ?_, Ext.refl _ _, outn_setβ _ _ _, .refl _ _⟩) h
  have hne : ((md + 1, ms) : Nm) ≠ (0, y) := by simp
  simp only [Bool.and_eq_true] at hfr
  have hlook : lookF (push hp up) (md + 1, ms) = some (raw.lift (md + 1)) := by simp [lookF, push, hb]
  have hl' : (raw.lift (md + 1)).live = true := by rw [Blk.lift_live]; exact hl
  have hr0 : HR (push hp (upd up (md, ms) .gone)) β own w := by rw [push_upd]; exact hr.heap.drop (md + 1, ms)
  have key : ∀ m c, lookF (push hp (upd up (md, ms) .gone)) m = some c → c.live = true → m ≠ (md + 1, ms) ∧ lookF (push hp up) m = some c := by
    intro m c hm hc
    rw [push_upd, lookF_upd] at hm
    by_cases e : m = (md + 1, ms)
    · rw [if_pos e] at hm; simp [atF, Blk.lift] at hm; subst hm; cases hc
    · rw [if_neg e] at hm; exact ⟨e, hm⟩
  refine ⟨hr.size, hr.defers, fun t p hp' => ?_, ?_⟩
  · simp only [look] at hp'
    split at hp'
    · simp at hp'; subst hp'
      exact .al _ _ (by rw [setβ_same, setβ_ne _ _ _ _ hne]) _
    · rw [look_takeTmF] at hp'
      cases hq : look tm t with
      | none => rw [hq] at hp'; cases hp'
      | some q =>
        rw [hq] at hp'; simp at hp'; subst hp'
        exact (hr.tm t q hq).takeF (freeTm_get hfr.2 hq)
  · have hbr := hr.heap.blk (md + 1, ms) _ hlook
    refine HR.install (d := y) hr0 hfr.1 (Ext.refl w own) hr.heap.lt (v := β (md + 1, ms)) (b := raw.lift (md + 1)) (fun m c hm hc hmy g hg => ?_) (hbr.reβ (0, y) (setβ_ne β y _) (Blk.lift_says _ _ _))
    obtain ⟨h1, h2⟩ := key m c hm hc
    exact ⟨rfl, (hr.heap.blk m c h2).block_lt hc hg, fun _ => hr.heap.inj m (md + 1, ms) c _ h2 hlook hc hl' h1 g hg⟩
end Go.Ab
namespace Go.Ab
set_option linter.unusedVariables false
set_option linter.unusedSimpArgs false
variable {P : Program} {f : FuncId} {R : Post} {k : List Item} {all : Array Oper} {o : Oper} {l : List Oper}
variable {n : Nat} {tm : List (Nat × PV)} {hp : Hp} {up : Hf} {d : Nat} {ty : TypeId} {pos : String} {aft : Array Edge} {gd : Option (Nat × Bool)} {op : Op} {p : PV}
variable {k' : List Item} {s s' : St}
theorem Blk.lift_saysN (b : Blk) (j x : Nat) : ∀ i, (b.lift i).says (j + i, x) = b.says (j, x)
  | 0 => by
    cases b with
    | box cs =>
      show PV.saysL (j, x) (PV.liftL 0 cs) = PV.saysL (j, x) cs
      have h0 : ∀ p : PV, p.lift 0 = p := by
        intro p
        refine PV.rec (motive_1 := fun p => p.lift 0 = p) (motive_2 := fun ps => PV.liftL 0 ps = ps) ?_ ?_ ?_ ?_ ?_ ?_ ?_ ?_ ?_ ?_ ?_ ?_ ?_ ?_ ?_ p <;> intros <;> simp_all [PV.lift, PV.liftL]
      have : ∀ cs, PV.liftL 0 cs = cs := by
        intro cs; induction cs with
        | nil => rfl
        | cons p r ih => simp [PV.liftL, h0, ih]
      rw [this]
    | lp _ _ _ _ _ st _ _ =>
      show saysTm (j, x) (liftTm 0 st) = saysTm (j, x) st
      have h0 : ∀ p : PV, p.lift 0 = p := by
        intro p
        refine PV.rec (motive_1 := fun p => p.lift 0 = p) (motive_2 := fun ps => PV.liftL 0 ps = ps) ?_ ?_ ?_ ?_ ?_ ?_ ?_ ?_ ?_ ?_ ?_ ?_ ?_ ?_ ?_ p <;> intros <;> simp_all [PV.lift, PV.liftL]
      have : ∀ st, liftTm 0 st = st := by
        intro st; induction st with
        | nil => rfl
        | cons p r ih => obtain ⟨t, q⟩ := p; simp [liftTm, h0, ih]
      rw [this]
    | _ => rfl
  | i + 1 => by rw [Blk.lift_comp, ← Nat.add_assoc, Blk.lift_says1]; exact Blk.lift_saysN b j x i
/-- no block (as its own frame has it) speaks of the name m -/
def QuietM (H : Hf) (m : Nm) : Prop := ∀ e t b, e ≤ m.1 → H e t = some b → b.says (m.1 - e, m.2) = false
theorem quiet_lookF {H : Hf} {m : Nm} (h : QuietM H m) {x : Nm} {c : Blk} (hc : lookF H x = some c) : c.says m = false := by
  obtain ⟨e, t⟩ := x
  obtain ⟨md, ms⟩ := m
  cases e with
  | zero => exact h 0 t c (Nat.zero_le _) hc
  | succ e =>
    simp only [lookF] at hc
    cases hu : H (e + 1) t with
    | none => rw [hu] at hc; cases hc
    | some q =>
      rw [hu] at hc; simp at hc; subst hc
      by_cases hle : e + 1 ≤ md
      · have := h (e + 1) t q hle hu
        have hl := Blk.lift_saysN q (md - (e + 1)) ms (e + 1)
        rw [show md - (e + 1) + (e + 1) = md by omega] at hl
        rw [hl]; exact this
      · have := Blk.lift_says0 (e - md) md ms q
        rw [show e - md + md + 1 = e + 1 by omega] at this
        exact this
theorem quiet_push {m : Nat × Nat} (hq : quietHp (m.1 + 1, m.2) hp = true) (hup : QuietM up m) : QuietM (push hp up) (m.1 + 1, m.2) := by
  intro e t b he hb
  cases e with
  | zero => exact quietHp_get hq hb
  | succ e =>
    have := hup e t b (by omega) hb
    simpa [Nat.add_sub_add_right] using this
/-- a row of one's own handed to a caller under that caller's name for it, which is bound anew -/
theorem r_givem (y md ms : Nat) {e kk : Nat} {xs : List (List D)} (hb : look hp y = some (.row e kk xs)) (hg : up md ms = some .gone) (hvol : R.vol (md, ms)) (hq : quietHp (md + 1, ms) hp = true) (hup : QuietM up (md, ms))
    (h : Run P f R k ⟨n, dropTm (md + 1, ms) tm, (y, .gone) :: aliasHp (md + 1, ms) (0, y) hp, upd up (md, ms) (.row e kk xs)⟩) : Run P f R k ⟨n, tm, hp, up⟩ := by
  refine Run.stepV (s := ⟨n, tm, hp, up⟩) (s' := ⟨n, dropTm (md + 1, ms) tm, (y, .gone) :: aliasHp (md + 1, ms) (0, y) hp, upd up (md, ms) (.row e kk xs)⟩) (fun β own a w hr b' fs => ?_) h
  let β' : Nm → Value := fun m => if m = (md + 1, ms) then β (0, y) else β m
  have hne : ∀ m, m ≠ (md + 1, ms) → β' m = β m := fun m hm => by simp [β', hm]
  have hsame : β' (md + 1, ms) = β' (0, y) := by simp [β']
  have hy : β' (0, y) = β (0, y) := hne _ (by simp)
  have hold : ∀ m c, lookF (push hp up) m = some c → c.says (md + 1, ms) = false := fun m c hc => quiet_lookF (quiet_push (m := (md, ms)) hq hup) hc
  have hgone : lookF (push hp up) (md + 1, ms) = some .gone := by simp [lookF, push, hg, Blk.lift]
  have h1 : HR (push hp up) β' own w := by
    refine ⟨fun m c hc => ?_, fun m1 m2 c1 c2 e1 e2 l1 l2 hn => ?_, hr.heap.lt⟩
    · by_cases hm : m = (md + 1, ms)
      · subst hm
        rw [hgone] at hc; simp at hc; subst hc; exact .gone _
      · rw [hne m hm]; exact (hr.heap.blk m c hc).reβ (md + 1, ms) hne (hold m c hc)
    · have hg1 : ∀ m c, lookF (push hp up) m = some c → c.live = true → m ≠ (md + 1, ms) := by
        rintro m c hc hl rfl
        rw [hgone] at hc; simp at hc; subst hc; cases hl
      rw [hne m1 (hg1 m1 c1 e1 l1), hne m2 (hg1 m2 c2 e2 l2)]
      exact hr.heap.inj m1 m2 c1 c2 e1 e2 l1 l2 hn
  have h2 := h1.alias (hp := hp) hsame
  refine ⟨β', own, a, w, ⟨hr.size, hr.defers, fun t p hp' => ?_, ?_⟩, Ext.refl _ _, fun m hm => ?_, .refl _ _⟩
  · simp only at hp'
    rw [look_dropTm] at hp'
    cases hq' : look tm t with
    | none => rw [hq'] at hp'; cases hp'
    | some q => rw [hq'] at hp'; simp at hp'; subst hp'; exact (hr.tm t q hq').drop hne
  · have hrow : lookF (push (aliasHp (md + 1, ms) (0, y) hp) up) (0, y) = some (.row e kk xs) := by
      show look (aliasHp (md + 1, ms) (0, y) hp) y = _
      rw [look_aliasHp, hb]; rfl
    have key : ∀ m c, lookF (push ((y, .gone) :: aliasHp (md + 1, ms) (0, y) hp) (upd up (md, ms) (.row e kk xs))) m = some c → c.live = true → (m = (md + 1, ms) ∧ c = .row e kk xs) ∨ (m ≠ (md + 1, ms) ∧ m ≠ (0, y) ∧ lookF (push (aliasHp (md + 1, ms) (0, y) hp) up) m = some c) := by
      intro m c hm hc
      rw [lookF_cons] at hm
      by_cases e1 : m = (0, y)
      · rw [if_pos e1] at hm; simp at hm; subst hm; cases hc
      · rw [if_neg e1, push_upd, lookF_upd] at hm
        by_cases e2 : m = (md + 1, ms)
        · rw [if_pos e2] at hm; simp [atF, Blk.lift] at hm; exact .inl ⟨e2, hm.symm⟩
        · rw [if_neg e2] at hm; exact .inr ⟨e2, e1, hm⟩
    refine ⟨fun m c hm => ?_, fun m1 m2 c1 c2 e1 e2 l1 l2 hn g hg' => ?_, h2.lt⟩
    · cases hc : c.live with
      | false => cases c <;> first | (simp [Blk.live] at hc; done) | exact .gone _
      | true =>
        rcases key m c hm hc with ⟨rfl, rfl⟩ | ⟨_, _, h3⟩
        · rw [hsame]; exact h2.blk _ _ hrow
        · exact h2.blk m c h3
    · rcases key m1 c1 e1 l1 with ⟨rfl, rfl⟩ | ⟨n1, n1', h3⟩
      · rcases key m2 c2 e2 l2 with ⟨rfl, rfl⟩ | ⟨n2, n2', h4⟩
        · exact absurd rfl hn
        · rw [hsame] at hg'
          exact h2.inj (0, y) m2 _ c2 hrow h4 l1 l2 (Ne.symm n2') g hg'
      · rcases key m2 c2 e2 l2 with ⟨rfl, rfl⟩ | ⟨n2, n2', h4⟩
        · rw [hsame]
          exact h2.inj m1 (0, y) c1 _ h3 hrow l1 l2 n1' g hg'
        · exact h2.inj m1 m2 c1 c2 h3 h4 l1 l2 hn g hg'
  · refine hne _ fun e => hm ?_
    simp only [Prod.mk.injEq] at e
    have : m = (md, ms) := Prod.ext (by omega) e.2
    subst this
    exact hvol
/-! contracts that bind the name m of a row anew -/
def QuietButM (H : Hf) (bs : List (Nm × Blk)) (m : Nm) : Prop := ∀ e t b, e ≤ m.1 → (∀ q ∈ bs, q.1 ≠ (e, t)) → H e t = some b → b.says (m.1 - e, m.2) = false
def EffM (P : Program) (g : FuncId) (args : List PV) (bs hs : List (Nm × Blk)) (p : PV) (m : Nm) : Prop :=
  ∀ H : Hf, (∀ q ∈ bs, H q.1.1 q.1.2 = some q.2) → QuietButM H bs m → SpecV P g args H ⟨fun r H' => r = .v p ∧ H' = updL H hs, fun n => n = m, none⟩
theorem effm_of {g : FuncId} {args : List PV} {bs hs : List (Nm × Blk)} {p : PV} {m : Nm} (h : ∀ H : Hf, (∀ q ∈ bs, H q.1.1 q.1.2 = some q.2) → QuietButM H bs m → SpecV P g args H ⟨fun r H' => r = .v p ∧ H' = updL H hs, fun n => n = m, none⟩) : EffM P g args bs hs p m := h
/-- an operation that calls a function that may bind anew what R allows -/
theorem o_enterV {g : FuncId} (hc : ∀ β own a w, Rep s β own a w → ∃ vals w1 own1, (execOp a.eval o).run P w = .ok (.enter g vals) w1 ∧ Ext w own w1 own1 ∧
      Calls P g vals w1 fun e w' => ∃ v β' own' s', e = .returned v ∧ Rep s' β' own' (a.put o.dst v) w' ∧ Ext w1 own1 w' own' ∧ (∀ x, ¬ R.vol x → outn β' x = outn β x) ∧ Ops P f R all l k s') : Op1 P f R all o l k s := by
  intro i rest ho hrest β own a w hrep hw b hb hk hn cs
  obtain ⟨vals, w1, own1, hrun, hext1, hcall⟩ := hc β own a w hrep
  obtain ⟨e, w', fr, ⟨v, β', own', s', rfl, hrep', hext, hout, hops⟩, hsteps, _, hleave⟩ := hcall (am b a (.inRegion all (i :: rest) :: k) :: cs)
  have hn' : RndOK R (outn β') b := by
    unfold RndOK at hn ⊢
    cases hm : R.rnd with
    | none => rw [hm] at hn; exact hn
    | some m =>
      rw [hm] at hn
      obtain ⟨hv, L, h1, h2⟩ := hn
      exact ⟨hv, L, h1, (hout m hv).trans h2⟩
  exact (((hops rest hrest β' own' _ w' hrep' b hb hk hn' cs).same hout).ext (hext1.trans hext)).of_steps (am_call ho hw hrun hsteps hleave)
/-- a call of a function that binds the name m anew: an own name, or one of a caller's that R allows -/
theorem o_effm {g : FuncId} {fo : Operand} {args : List Operand} {first cap ps : List PV} {ats : Array TypeId} {bs hs : List (Nm × Blk)} {m : Nm} {s' : St} (hsp : EffM P g (first ++ ps ++ cap) bs hs p m) (hfo : St.ev ⟨n, tm, hp, up⟩ fo = some (.fn (.func g) first cap)) (hev : St.evs ⟨n, tm, hp, up⟩ args = some ps)
    (hb : BkE ⟨n, tm, hp, up⟩ bs) (hq : QuietButM (push hp up) bs m) (hv : ∀ x : Nm, m = (x.1 + 1, x.2) → R.vol x) (hd : d < n) (hs' : St.app ⟨n, dropTm m tm, hp, up⟩ ⟨[], [], [], [(d, p)], hs⟩ = s') (h : Ops P f R all l k s') :
    Op1 P f R all ⟨some d, .call ⟨.value fo, args.toArray, ats⟩, ty, pos, aft, gd⟩ l k ⟨n, tm, hp, up⟩ := by
  have hsp' := hsp (push hp up) (fun q hq => bks_all (bkE hb) q hq) hq
  refine o_enterV (g := g) fun β own a w hr => ?_
  obtain ⟨vals, hrun, hargs⟩ := run_call hr hfo hev hsp'.plain (dst := some d) (ats := ats) (ty := ty) (pos := pos) (aft := aft) (gd := gd)
  refine ⟨vals.toArray, w, own, hrun, Ext.refl _ _, (hsp'.run β own w vals hr.heap hargs).mono fun e w' hfin => ?_⟩
  obtain ⟨v, r, H, own', β', he, ⟨hr1, hH⟩, hrv, hheap, hext, hβ⟩ := hfin
  subst hr1
  cases hrv with
  | v _ _ hpv =>
    refine ⟨v, β', own', _, he, ?_, hext, fun x hx => hβ _ (fun e => hx (hv x e.symm)), h⟩
    have hr' : Rep (St.setBs ⟨n, dropTm m tm, hp, up⟩ hs) β' own' a w' := by
      refine ⟨?_, hr.defers, fun t q hq => ?_, ?_⟩
      · rw [(setBs_raw hs _).2.1]; exact hr.size
      · rw [(setBs_raw hs _).1] at hq
        simp only at hq
        rw [look_dropTm] at hq
        cases hq' : look tm t with
        | none => rw [hq'] at hq; cases hq
        | some q0 => rw [hq'] at hq; simp at hq; subst hq; exact ((hr.tm t q0 hq').mono hext).drop hβ
      · rw [push_setBs]; simp only; rw [← hH]; exact hheap
    have hr2 := hr'.put (dst := some d) (p := p) (v := v) (by simp [St.fits, (setBs_raw hs _).2.1, hd]) hpv
    rw [← hs']
    exact hr2
/-! rounds -/
/-- a round of the loop m, from a call of its yield -/
def SpecY (P : Program) (m : Nm) (args : List PV) (H : Hf) (R : PostS) (vol : Nm → Prop) : Prop :=
  ∀ β own w vals L, HR H β own w → ArgsR β w own args vals → β m = .pointer (some ⟨L, 0, none⟩) →
    ∃ g tmps asg body, (Instr.yield L vals.toArray).run P w = .ok (.round L g tmps asg body) w ∧ ∀ (c : Frame) cs, ∃ w' v r H' own' β',
      Steps P (lone (Frame.round L g tmps asg body .normal) (c :: cs) w) (lone (c.finish v) cs w') ∧ R r H' ∧ RVR H' β' w' own' r v ∧ HR H' β' own' w' ∧ Ext w own w' own' ∧ ∀ x, ¬ vol x → β' x = β x
def zipTm : List Nat → List PV → List (Nat × PV)
  | t :: ts, p :: ps => (t, p.lift 1) :: zipTm ts ps
  | _, _ => []
/-- the round's frame: its busy loop -/
theorem r_begin {m : Nm} {n' : Nat} {f' : FuncId} {ps : Array Tmp} {asg body : Code} {st : List (Nat × PV)} {pend : Option Code} (hrnd : R.rnd = some m) (hb : up m.1 m.2 = some (.lp n' f' ps asg body st .ready pend))
    (h : Run P f R k ⟨n, tm, hp, upd up m (.lp n' f' ps asg body st .busy pend)⟩) : Run P f R (.beginRound :: k) ⟨n, tm, hp, up⟩ := by
  intro β own a w hrep b hb' hk hn cs
  have hn0 := hn
  unfold RndOK at hn
  rw [hrnd] at hn
  obtain ⟨hv, L, hL, hβ⟩ := hn
  have hlook : lookF (push hp up) (m.1 + 1, m.2) = some ((Blk.lp n' f' ps asg body st .ready pend).lift (m.1 + 1)) := by simp [lookF, push, hb]
  have hbr := hrep.heap.blk _ _ hlook
  have hβ' : β (m.1 + 1, m.2) = .pointer (some ⟨L, 0, none⟩) := hβ
  simp only [Blk.lift] at hbr
  generalize hgv : β (m.1 + 1, m.2) = vv at hbr
  cases hbr with
  | lp g _ _ _ _ _ _ _ _ tmps df ho hg hl hd =>
    rw [hβ'] at hgv
    simp at hgv
    subst hgv
    have hgl : L < w.heap.size := (Array.getElem?_eq_some_iff.1 hg).1
    have hrun := run_beginRound (P := P) hg rfl
    obtain ⟨w1, hw1⟩ : ∃ w1, w.putObj L (.loop { state := .busy, pending := pend, fn := f', tmps := tmps, params := ps, assign := asg, body := body, defers := df }) = w1 := ⟨_, rfl⟩
    rw [show ({ state := LoopState.busy, pending := pend, fn := f', tmps := tmps, params := ps, assign := asg, body := body, defers := df } : Loop) = { ({ state := .ready, pending := pend, fn := f', tmps := tmps, params := ps, assign := asg, body := body, defers := df } : Loop) with state := .busy } from rfl] at hw1
    rw [hw1] at hrun
    have hoth : ∀ g, g ≠ L → w1.heap[g]? = w.heap[g]? := fun g hg' => by rw [← hw1]; exact World.putObj_heap_other hg'
    have hhere : w1.heap[L]? = some (.loop { state := .busy, pending := pend, fn := f', tmps := tmps, params := ps, assign := asg, body := body, defers := df }) := by rw [← hw1]; exact World.putObj_heap_same hgl
    have hsz : w1.heap.size = w.heap.size := by rw [← hw1]; simp
    have hE : Ext w own w1 own := ⟨by rw [← hw1]; rfl, by rw [← hw1]; rfl, by rw [← hw1]; rfl, by omega, fun g hg' hog => hoth g fun e => hog (e ▸ ho), fun _ _ h => h⟩
    have hR1 := hrep.heap.change (m := (m.1 + 1, m.2)) (raw := .lp n' f' ps asg body st .busy pend) hlook rfl hE hsz (fun g hg' => hoth g fun e => hg' (by rw [hβ', e]; rfl)) (by
      rw [hβ']
      show BR β w1 own _ (.lp n' f' ps asg body (liftTm (m.1 + 1) st) .busy pend)
      exact .lp L n' f' ps asg body _ .busy pend tmps df ho hhere hl fun t p hp => (hd t p hp).mono hE)
    have hrep1 : Rep ⟨n, tm, hp, upd up m (.lp n' f' ps asg body st .busy pend)⟩ β own a w1 := ⟨hrep.size, hrep.defers, fun t p hp => (hrep.tm t p hp).mono hE, by rw [show upd up m (.lp n' f' ps asg body st .busy pend) = upd up (m.1, m.2) (.lp n' f' ps asg body st .busy pend) from rfl, push_upd]; exact hR1⟩
    exact ((h β own a w1 hrep1 b hb' hk hn0 cs).ext hE).of_steps (.one (stepR_beginRound hL hrun))
end Go.Ab
namespace Go.Ab
set_option linter.unusedVariables false
set_option linter.unusedSimpArgs false
variable {P : Program} {f : FuncId} {R : Post} {k : List Item} {all : Array Oper} {o : Oper} {l : List Oper}
variable {n : Nat} {tm : List (Nat × PV)} {hp : Hp} {up : Hf} {d : Nat} {ty : TypeId} {pos : String} {aft : Array Edge} {gd : Option (Nat × Bool)} {op : Op} {p : PV}
variable {k' : List Item} {s s' : St}
/-- what a loop's block says -/
theorem lp_facts {H : Hf} {β : Nm → Value} {own : Nat → Prop} {w : World} (hr : HR H β own w) {m : Nm} {n' : Nat} {f' : FuncId} {ps : Array Tmp} {asg body : Code} {st : List (Nat × PV)} {state : LoopState} {pend : Option Code} (hb : H m.1 m.2 = some (.lp n' f' ps asg body st state pend)) :
    ∃ L tmps df, β m = .pointer (some ⟨L, 0, none⟩) ∧ own L ∧ w.heap[L]? = some (.loop { state, pending := pend, fn := f', tmps, params := ps, assign := asg, body, defers := df }) ∧ tmps.size = n' ∧
      ∀ t q, (t, q) ∈ st → PR (inn β) w own (q.lift (m.1 + 1)) (tmps.getD t undef) := by
  obtain ⟨md, ms⟩ := m
  cases md with
  | zero =>
    have hbr := hr.blk (0, ms) _ (show lookF H (0, ms) = some _ from hb)
    generalize hgv : β (0, ms) = vv at hbr
    cases hbr with
    | lp g _ _ _ _ _ _ _ _ tmps df ho hg hl hd => exact ⟨g, tmps, df, rfl, ho, hg, hl, fun t q hq => PR.lift (β := inn β) (by rw [outn_inn]; exact hd t q hq)⟩
  | succ md =>
    have hbr := hr.blk (md + 1, ms) _ (show lookF H (md + 1, ms) = some _ by simp only [lookF, hb]; rfl)
    simp only [Blk.lift] at hbr
    generalize hgv : β (md + 1, ms) = vv at hbr
    cases hbr with
    | lp g _ _ _ _ _ _ _ _ tmps df ho hg hl hd =>
      refine ⟨g, tmps, df, rfl, ho, hg, hl, fun t q hq => ?_⟩
      have := PR.lift (β := inn β) (by rw [outn_inn]; exact hd t _ (liftTm_mem' hq))
      rwa [PV.lift_lift] at this
/-- the state of a loop's block turns -/
theorem lp_put {H : Hf} {β : Nm → Value} {own : Nat → Prop} {w : World} (hr : HR H β own w) {m : Nm} {n' : Nat} {f' : FuncId} {ps : Array Tmp} {asg body : Code} {st : List (Nat × PV)} {state state' : LoopState} {pend pend' : Option Code} (hb : H m.1 m.2 = some (.lp n' f' ps asg body st state pend))
    {L : Nat} {tmps : Array Value} {df : Nat} (hβ : β m = .pointer (some ⟨L, 0, none⟩)) (ho : own L) (hg : w.heap[L]? = some (.loop { state, pending := pend, fn := f', tmps, params := ps, assign := asg, body, defers := df })) :
    Ext w own (w.putObj L (.loop { state := state', pending := pend', fn := f', tmps, params := ps, assign := asg, body, defers := df })) own ∧
    HR (upd H m (.lp n' f' ps asg body st state' pend')) β own (w.putObj L (.loop { state := state', pending := pend', fn := f', tmps, params := ps, assign := asg, body, defers := df })) := by
  obtain ⟨w1, hw1⟩ : ∃ w1, w.putObj L (.loop { state := state', pending := pend', fn := f', tmps, params := ps, assign := asg, body, defers := df }) = w1 := ⟨_, rfl⟩
  rw [hw1]
  have hgl : L < w.heap.size := (Array.getElem?_eq_some_iff.1 hg).1
  have hoth : ∀ g, g ≠ L → w1.heap[g]? = w.heap[g]? := fun g hg' => by rw [← hw1]; exact World.putObj_heap_other hg'
  have hhere : w1.heap[L]? = some (.loop { state := state', pending := pend', fn := f', tmps := tmps, params := ps, assign := asg, body := body, defers := df }) := by rw [← hw1]; exact World.putObj_heap_same hgl
  have hsz : w1.heap.size = w.heap.size := by rw [← hw1]; simp
  have hE : Ext w own w1 own := ⟨by rw [← hw1]; rfl, by rw [← hw1]; rfl, by rw [← hw1]; rfl, by omega, fun g hg' hog => hoth g fun e => hog (e ▸ ho), fun _ _ h => h⟩
  refine ⟨hE, ?_⟩
  obtain ⟨md, ms⟩ := m
  cases md with
  | zero =>
    have hlook : lookF H (0, ms) = some (.lp n' f' ps asg body st state pend) := hb
    have hbr := hr.blk (0, ms) _ hlook
    refine hr.change (m := (0, ms)) (raw := .lp n' f' ps asg body st state' pend') hlook rfl hE hsz (fun g hg' => hoth g fun e => hg' (by rw [hβ, e]; rfl)) ?_
    show BR β w1 own (β (0, ms)) (.lp n' f' ps asg body st state' pend')
    rw [hβ] at hbr ⊢
    cases hbr with
    | lp g _ _ _ _ _ _ _ _ tmps' df' ho' hg' hl hd =>
      rw [hg] at hg'; simp at hg'
      obtain ⟨rfl, rfl⟩ := hg'
      exact .lp L n' f' ps asg body _ state' pend' tmps df ho hhere hl fun t p hp => (hd t p hp).mono hE
  | succ md =>
    have hlook : lookF H (md + 1, ms) = some (.lp n' f' ps asg body (liftTm (md + 1) st) state pend) := by
      simp only at hb; simp only [lookF, hb]; rfl
    have hbr := hr.blk (md + 1, ms) _ hlook
    refine hr.change (m := (md + 1, ms)) (raw := .lp n' f' ps asg body st state' pend') hlook rfl hE hsz (fun g hg' => hoth g fun e => hg' (by rw [hβ, e]; rfl)) ?_
    show BR β w1 own (β (md + 1, ms)) (.lp n' f' ps asg body (liftTm (md + 1) st) state' pend')
    rw [hβ] at hbr ⊢
    cases hbr with
    | lp g _ _ _ _ _ _ _ _ tmps' df' ho' hg' hl hd =>
      rw [hg] at hg'; simp at hg'
      obtain ⟨rfl, rfl⟩ := hg'
      exact .lp L n' f' ps asg body _ state' pend' tmps df ho hhere hl fun t p hp => (hd t p hp).mono hE
/-- how a round that left at jump leaves its loop -/
def lpEnd (n' : Nat) (f' : FuncId) (ps : Array Tmp) (asg body : Code) (st : List (Nat × PV)) (jump : Option Code) : Blk := .lp n' f' ps asg body st (if jump.isNone then .ready else .done) jump
theorem frame_eta {fr : Frame} (h : fr.mode = .run) : fr = fr.atR { tmps := fr.tmps, defers := fr.defers } fr.todo := by
  cases fr; simp at h; subst h; rfl
/-- a round, by running the loop's body -/
theorem y_of {m : Nm} {H : Hf} {n' : Nat} {f' : FuncId} {t0 : Tmp} {asg body : Code} {st : List (Nat × PV)} {arg : PV} {R2 R' : PostS} {vol : Nm → Prop} {pend : Option Code}
    (hb : H m.1 m.2 = some (.lp n' f' #[t0] asg body st .ready pend)) (ht0 : t0 < n') (hvm : ¬ vol m)
    (h : Run P f' ⟨R2, vol, some m⟩ [.code asg, .beginRound, .code body] ⟨n', (t0, arg.lift 1) :: liftTm (m.1 + 1) st, [], H⟩)
    (hend : ∀ H', R2 (.v (B true)) H' → ∃ st' pd, H' m.1 m.2 = some (.lp n' f' #[t0] asg body st' .busy pd) ∧ R' (.v (B true)) (upd H' m (lpEnd n' f' #[t0] asg body st' none)))
    (hret : ∀ H', R2 (.v (B false)) H' → ∃ st' pd, H' m.1 m.2 = some (.lp n' f' #[t0] asg body st' .busy pd) ∧ R' (.v (B false)) (upd H' m (lpEnd n' f' #[t0] asg body st' (some .ret))))
    (hexit : ∀ (id : Nat) H', R2 (.v (I .i64 (id : Nat))) H' → ∃ st' pd, H' m.1 m.2 = some (.lp n' f' #[t0] asg body st' .busy pd) ∧ R' (.v (B false)) (upd H' m (lpEnd n' f' #[t0] asg body st' (some (.exit id))))) :
    SpecY P m [arg] H R' vol := by
  intro β own w vals L0 hr hargs hβ0
  obtain ⟨L, tmps, df, hβ, ho, hg, hsz, hfacts⟩ := lp_facts hr hb
  obtain rfl : L0 = L := by rw [hβ] at hβ0; simpa using hβ0.symm
  obtain ⟨hl, ha⟩ := hargs
  obtain ⟨v, rfl⟩ : ∃ v, vals = [v] := by
    match vals, hl with
    | [v], _ => exact ⟨v, rfl⟩
  have hav := ha 0 arg v rfl rfl
  refine ⟨f', tmps.setIfInBounds t0 v, asg, body, ?_, fun c cs => ?_⟩
  · have := run_yield (P := P) (args := [v].toArray) hg (by simp)
    simpa using this
  let b : Frame := { fn := f', tmps := #[], todo := [], defers := [], mode := .run, kind := .normal, roundOf := some L0 }
  have hstart : Frame.round L0 f' (tmps.setIfInBounds t0 v) asg body .normal = am b { tmps := tmps.setIfInBounds t0 v, defers := [] } [.code asg, .beginRound, .code body] := by
    simp [Frame.round, am, Frame.atR, b]
  have hrep : Rep ⟨n', (t0, arg.lift 1) :: liftTm (m.1 + 1) st, [], H⟩ (inn β) own { tmps := tmps.setIfInBounds t0 v, defers := [] } w := by
    refine ⟨by simpa using hsz, rfl, fun t p hp => ?_, hr.inner⟩
    simp only [look] at hp
    split at hp
    · rename_i e; subst e
      simp at hp; subst hp
      have : (tmps.setIfInBounds t0 v).getD t0 undef = v := by simp [Array.getD_eq_getD_getElem?, hsz, ht0]
      rw [this]
      exact PR.lift (β := inn β) (by rw [outn_inn]; exact hav)
    · rename_i e
      have hmem : ∀ {l : List (Nat × PV)} {t : Nat} {p : PV}, look l t = some p → (t, p) ∈ l := by
        intro l
        induction l with
        | nil => intro t p h; simp [look] at h
        | cons x r ih =>
          obtain ⟨u, q⟩ := x
          intro t p h
          simp only [look] at h
          split at h
          · rename_i e; subst e; simp at h; subst h; simp
          · exact List.mem_cons_of_mem _ (ih h)
      obtain ⟨q, h1, rfl⟩ := liftTm_mem (hmem hp)
      have hne : (tmps.setIfInBounds t0 v).getD t undef = tmps.getD t undef := by
        simp only [Array.getD_eq_getD_getElem?]; rw [Array.getElem?_setIfInBounds_ne e]
      rw [hne]
      exact hfacts t q h1
  obtain ⟨w', fr, r, H', ownm, β', h1, h2, h3, h4, h5, h6, h7, h8, v', h9, h10, h11⟩ := h (inn β) own _ w hrep b rfl rfl ⟨hvm, L0, rfl, by rw [outn_inn]; exact hβ⟩ (c :: cs)
  rw [outn_inn] at h6
  subst h10
  have hβm : β' m = .pointer (some ⟨L0, 0, none⟩) := (h6 m hvm).trans hβ
  have hfr := frame_eta h7
  have fin : ∀ (jump : Option Code) (st' : List (Nat × PV)) (pd : Option Code) (vv : Bool), H' m.1 m.2 = some (.lp n' f' #[t0] asg body st' .busy pd) → R' (.v (B vv)) (upd H' m (lpEnd n' f' #[t0] asg body st' jump)) → jump.isNone = vv →
      (∀ w2, (Instr.endRound L0 jump).run P w' = .ok (.bool vv) w2 → step P (lone fr (c :: cs) w') = .next (lone (c.finish (.bool vv)) cs w2)) →
      ∃ w' v' r H' own' β', Steps P (lone (Frame.round L0 f' (tmps.setIfInBounds t0 v) asg body .normal) (c :: cs) w) (lone (c.finish v') cs w') ∧ R' r H' ∧ RVR H' β' w' own' r v' ∧ HR H' β' own' w' ∧ Ext w own w' own' ∧ ∀ x, ¬ vol x → β' x = β x := by
    intro jump st' pd vv hb' hR' hj hstep
    obtain ⟨L', tmps', df', hβ'', ho', hg', _, _⟩ := lp_facts h11 hb'
    obtain rfl : L0 = L' := by rw [hβ''] at hβm; simpa using hβm.symm
    have hrun := run_endRound (P := P) jump hg'
    rw [hj] at hrun
    obtain ⟨hE, hR2⟩ := lp_put (state' := if jump.isNone then .ready else .done) (pend' := jump) h11 hb' hβ'' ho' hg'
    rw [hj] at hE hR2
    have hst := hstep _ hrun
    refine ⟨_, _, _, _, ownm, β', Steps.trans (by rw [hstart]; exact h1) (.one hst), hR', .v _ _ (.d _ _ (.lit _ rfl)), ?_, h5.trans hE, h6⟩
    rw [lpEnd, hj]; exact hR2
  rcases h9 with ⟨e1, rfl⟩ | ⟨⟨k', e1⟩, rfl⟩ | ⟨id, k', e1, e2, rfl⟩
  · obtain ⟨st', pd, hb', hR'⟩ := hend H' h4
    refine fin none st' pd true hb' hR' rfl fun w2 hw2 => ?_
    rw [hfr, e1]
    exact stepR_round_end (b := fr) (by rw [h8]) h3 hw2
  · obtain ⟨st', pd, hb', hR'⟩ := hret H' h4
    refine fin (some .ret) st' pd false hb' hR' rfl fun w2 hw2 => ?_
    rw [hfr, e1]
    exact stepR_round_ret (b := fr) (by rw [h8]) h3 hw2
  · obtain ⟨st', pd, hb', hR'⟩ := hexit id H' h4
    refine fin (some (.exit id)) st' pd false hb' hR' rfl fun w2 hw2 => ?_
    rw [hfr, e1]
    exact stepR_round_exit (b := fr) (by rw [h8]) h3 e2 hw2
/-- a call of yield -/
theorem o_yield {fo : Operand} {args : List Operand} {m mv : Nm} {ps : List PV} {ats : Array TypeId} {R' : PostS} (hsp : SpecY P m ps (push hp up) R' (fun x => x = mv)) (hfo : St.ev ⟨n, tm, hp, up⟩ fo = some (.yl m)) (hev : St.evs ⟨n, tm, hp, up⟩ args = some ps)
    (hv : ∀ x : Nm, mv = (x.1 + 1, x.2) → R.vol x) (hd : d < n) (hk : ∀ r H, R' r H → ∃ p hp' up', r = .v p ∧ H = push hp' up' ∧ Ops P f R all l k ⟨n, (d, p) :: dropTm mv tm, hp', up'⟩) :
    Op1 P f R all ⟨some d, .call ⟨.value fo, args.toArray, ats⟩, ty, pos, aft, gd⟩ l k ⟨n, tm, hp, up⟩ := by
  intro i rest ho hrest β own a w hrep hw b hb hk' hn cs
  have hfv := hrep.ev hfo
  generalize hvv : a.eval fo = vv at hfv
  cases hfv with
  | yl _ L hβ =>
    have hargs := hrep.evs hev
    obtain ⟨g, tmps, asg, body, hrun, hround⟩ := hsp β own w (args.map a.eval) L hrep.heap hargs hβ
    have hexec : (execOp a.eval ⟨some d, .call ⟨.value fo, args.toArray, ats⟩, ty, pos, aft, gd⟩).run P w = .ok (.round L g tmps asg body) w := by
      simp [execOp, resolve, hvv, Deferred.ofValue, invoke]
      simpa using hrun
    obtain ⟨w', v, r, H, own', β', hst, hR, hrv, hheap, hext, hβ'⟩ := hround (am b a (.inRegion all (i :: rest) :: k)) cs
    obtain ⟨p, hp', up', rfl, rfl, hops⟩ := hk r H hR
    have hout : ∀ x, ¬ R.vol x → outn β' x = outn β x := fun x hx => hβ' _ fun e => hx (hv x e.symm)
    have hn' : RndOK R (outn β') b := by
      unfold RndOK at hn ⊢
      cases hm : R.rnd with
      | none => rw [hm] at hn; exact hn
      | some m =>
        rw [hm] at hn
        obtain ⟨hv, L, h1, h2⟩ := hn
        exact ⟨hv, L, h1, (hout m hv).trans h2⟩
    cases hrv with
    | v _ _ hpv =>
      have hr' : Rep ⟨n, dropTm mv tm, hp', up'⟩ β' own' a w' := by
        refine ⟨hrep.size, hrep.defers, fun t q hq => ?_, hheap⟩
        simp only at hq
        rw [look_dropTm] at hq
        cases hq' : look tm t with
        | none => rw [hq'] at hq; cases hq
        | some q0 => rw [hq'] at hq; simp at hq; subst hq; exact ((hrep.tm t q0 hq').mono hext).drop hβ'
      have hr2 := hr'.put (dst := some d) (p := p) (v := v) (by simp [St.fits, hd]) hpv
      have hgo := stepGR_op (P := P) (b := b) (a := { a with defers := b.defers }) (k := k) (cs := cs) (w := w) (rest := rest) ho hw
      have hfin : ∀ v, (am b a (.inRegion all (i :: rest) :: k)).finish v = am b (a.put (some d) v) (.inRegion all rest :: k) := by
        intro v; rw [finish_am, ho]; rfl
      have hsem := semAt_run (ro := b.roundOf) hexec (by simp)
      rw [← eval_am' b a] at hsem
      have henter : step P (lone (am b a (.inRegion all (i :: rest) :: k)) cs w) = .next (lone (Frame.round L g tmps asg body .normal) (am b a (.inRegion all (i :: rest) :: k) :: cs) w) :=
        step_lone_go (by
          rw [show am b a (.inRegion all (i :: rest) :: k) = b.atR { a with defers := b.defers } (.inRegion all (i :: rest) :: k) from rfl]
          rw [hgo]; simp [stepG.apply, hsem, Frame.atR])
      rw [hfin] at hst
      exact (((hops rest hrest β' own' _ w' hr2 b hb hk' hn' cs).same hout).ext hext).of_steps (.head henter hst)
end Go.Ab
namespace Go.Ab
set_option linter.unusedVariables false
set_option linter.unusedSimpArgs false
variable {P : Program} {f : FuncId} {R : Post} {k : List Item}
variable {n : Nat} {tm : List (Nat × PV)} {hp : Hp} {up : Hf}
theorem r_rangeFunc (ls ms : Nat) (st : List (Nat × PV)) {g : Operand} {ps : Array Tmp} {asg body : Code} {gf : FuncId} {cap : List PV} {R' : Post} (hrnd : R.rnd = none) (hgv : St.ev ⟨n, tm, hp, up⟩ g = some (.fn (.func gf) [] cap))
    (hst : SubE st tm) (hfr : (freeHp ls hp && freeTm ls tm) = true) (hms : (ms == ls) = false)
    (hsp : SpecV P gf (.yl (0, ls) :: cap) (push ((ls, .lp n f ps asg body st .ready none) :: hp) up) R') (hv : ∀ m, R'.vol m → m = (0, ms))
    (hk : ∀ r H, R'.post r H → ∃ state jump st' hp' up', H = push ((ls, .lp n f ps asg body st' state jump) :: hp') up' ∧ state ≠ .busy ∧ Run P f R ((jump.map Item.code).toList ++ k) ⟨n, dropTm (0, ms) tm, (ls, .gone) :: hp', up'⟩) :
    Run P f R (.code (.rangeFunc g ps asg body) :: k) ⟨n, tm, hp, up⟩ := by
  intro β own a w hrep b hb hbk hn cs
  have hb0 : b.roundOf = none := by rw [RndOK, hrnd] at hn; exact hn
  have hfr' := hfr
  simp only [Bool.and_eq_true] at hfr'
  have hsub := subE hst
  obtain ⟨L, hL⟩ : ∃ L, w.heap.size + 1 = L := ⟨_, rfl⟩
  obtain ⟨w0, hw0⟩ : ∃ w0, w.alloc (.deferred (some [])) = w0 := ⟨_, rfl⟩
  obtain ⟨lo, hlo⟩ : ∃ lo : Loop, lo = { state := .ready, pending := none, fn := f, tmps := a.tmps, params := ps, assign := asg, body, defers := w.heap.size } := ⟨_, rfl⟩
  obtain ⟨w1, hw1⟩ : ∃ w1, w0.alloc (.loop lo) = w1 := ⟨_, rfl⟩
  have hs0 : w0.heap.size = w.heap.size + 1 := by rw [← hw0]; exact World.size_alloc _ _
  have hs1 : w1.heap.size = w.heap.size + 2 := by rw [← hw1, World.size_alloc, hs0]
  have hoth : ∀ i, i < w.heap.size → w1.heap[i]? = w.heap[i]? := fun i hi => by
    rw [← hw1, alloc_old _ _ _ (by omega), ← hw0, alloc_old _ _ _ hi]
  have hD1 : w1.heap[w.heap.size]? = some (.deferred (some [])) := by
    rw [← hw1, alloc_old _ _ _ (by omega), ← hw0]; exact World.alloc_heap_new _ _
  have hL1 : w1.heap[L]? = some (.loop lo) := by
    rw [← hw1, ← hL, ← hs0]; exact World.alloc_heap_new _ _
  -- the own blocks now
  let own1 : Nat → Prop := fun g => own g ∨ g = L
  have hE1 : Ext w own w1 own1 := ⟨by rw [← hw1, ← hw0]; rfl, by rw [← hw1, ← hw0]; rfl, by rw [← hw1, ← hw0]; rfl, by omega, fun i hi _ => hoth i hi, fun i hi ho h => by
    rcases h with h | h
    · exact ho h
    · omega⟩
  have hrep1 : Rep ⟨n, tm, (ls, .lp n f ps asg body st .ready none) :: hp, up⟩ (setβ β ls (.pointer (some ⟨L, 0, none⟩))) own1 a w1 := by
    refine hrep.install hfr hE1 (fun i hi => ?_) (fun m c hm hc hne i hi => ⟨hoth i (hrep.heap.lt i ((hrep.heap.blk m c hm).block_lt hc hi)), .inl ((hrep.heap.blk m c hm).block_lt hc hi), fun _ e => ?_⟩) ?_
    · rcases hi with hi | rfl
      · have := hrep.heap.lt i hi; omega
      · omega
    · simp [blockOf] at e
      have := hrep.heap.lt i ((hrep.heap.blk m c hm).block_lt hc hi)
      omega
    · refine .lp L n f ps asg body st .ready none a.tmps w.heap.size (.inr rfl) (by rw [hL1, hlo]) hrep.size fun t p hp => ?_
      have hlook : look tm t = some p := by
        have : ∀ {l : List (Nat × PV)}, Sub l tm → (t, p) ∈ l → look tm t = some p := by
          intro l
          induction l with
          | nil => intro _ h; simp at h
          | cons x r ih =>
            obtain ⟨u, q⟩ := x
            intro hs h
            rw [List.mem_cons] at h
            rcases h with e | h
            · simp at e; rw [e.1, e.2]; exact hs.1
            · exact ih hs.2 h
        exact this hsub hp
      exact ((hrep.tm t p hlook).mono hE1).reβ (0, ls) (setβ_ne β ls _) (freeTm_get hfr'.2 hlook)
  obtain ⟨β1, hβ1⟩ : ∃ β1, setβ β ls (.pointer (some ⟨L, 0, none⟩)) = β1 := ⟨_, rfl⟩
  rw [hβ1] at hrep1
  have hβ1L : β1 (0, ls) = .pointer (some ⟨L, 0, none⟩) := by rw [← hβ1, setβ_same]
  have ho1 : outn β1 = outn β := by rw [← hβ1]; exact outn_setβ _ _ _
  -- the call
  have hgr := hrep1.ev (x := g) hgv
  generalize hvv : a.eval g = vv at hgr
  cases hgr with
  | fn _ _ _ fv cv hl hl' hd hd' =>
    have hfv : fv = [] := by simpa using hl.symm
    subst hfv
    obtain ⟨fn, hfn, hname, hbody⟩ := hsp.plain
    have hbc : ∃ c, fn.body = some c := by cases hc : fn.body with | none => rw [hc] at hbody; cases hbody | some c => exact ⟨c, rfl⟩
    obtain ⟨c, hbc⟩ := hbc
    have hname' : ¬ (fn.name = "runtime.NumGoroutine") := by simpa using hname
    have hargs : ArgsR β1 w1 own1 (.yl (0, ls) :: cap) (.func (.yield L) #[] #[] :: cv) := by
      refine ⟨by simp [hl'], fun j p v hp hv => ?_⟩
      cases j with
      | zero => simp at hp hv; subst hp; subst hv; exact .yl _ L hβ1L
      | succ j => exact hd' j p v (by simpa using hp) (by simpa using hv)
    let b2 : Frame := { b with defers := mark w.heap.size :: b.defers }
    have hstep : step P (lone (am b a (.code (.rangeFunc g ps asg body) :: k)) cs w) = .next (lone (Frame.enter P gf (.func (.yield L) #[] #[] :: cv).toArray .normal) (am b2 a (.inRangeFunc L :: k) :: cs) w1) := by
      have he : (Instr.enterLoop b.fn ({ a with defers := b.defers } : Act).tmps ps asg body b.roundOf).run P w = .ok (L, [mark w.heap.size]) w1 := by
        rw [hb0]
        have := run_enterLoop_outer (P := P) (w := w) b.fn a.tmps ps asg body
        rw [hb, hw0] at this
        rw [hb, this, ← hw1, hlo, hL]; rfl
      have hev : ({ a with defers := b.defers } : Act).eval g = .func (.func gf) #[] cv.toArray := by rw [eval_am]; simpa using hvv
      exact stepR_rangeFunc (P := P) (b := b) (a := { a with defers := b.defers }) (k := k) (cs := cs) (d := { target := .fn (.func gf) cv.toArray, args := #[.func (.yield L) #[] #[]] }) (w₁' := w1) (w₂ := w1) he
        (by simp only [resolve, hev]; simp [Deferred.ofValue, Act.eval]) (by simp [invoke, callFunc, hfn, hname', hbc])
    obtain ⟨e, w2, fr, ⟨v, r, H, own2, β2, rfl, hR, hrv, hheap, hext, hβ2⟩, hcomes, hfrf, hleave⟩ := hsp.run β1 own1 w1 _ hrep1.heap hargs (am b2 a (.inRangeFunc L :: k) :: cs)
    obtain ⟨state, jump, st', hp', up', rfl, hbusy, hrun⟩ := hk r H hR
    have hne : ∀ x, x ≠ (0, ms) → β2 x = β1 x := fun x hx => hβ2 x fun h => hx (hv x h)
    have hlsms : ((0, ls) : Nm) ≠ (0, ms) := by
      intro e; simp at e; simp at hms; exact hms e.symm
    have hβ2L : β2 (0, ls) = .pointer (some ⟨L, 0, none⟩) := (hne _ hlsms).trans hβ1L
    have hblk : (push ((ls, .lp n f ps asg body st' state jump) :: hp') up') (0, ls).1 (0, ls).2 = some (.lp n f ps asg body st' state jump) := by simp [push, look]
    obtain ⟨L', tmps', df', hβ', ho', hg', _, _⟩ := lp_facts hheap hblk
    obtain rfl : L = L' := by rw [hβ2L] at hβ'; simpa using hβ'
    have hrunE := run_endLoop (P := P) hg' hbusy
    obtain ⟨hE2, hR2⟩ := lp_put (state' := .exhausted) (pend' := jump) hheap hblk hβ' ho' hg'
    obtain ⟨w3, hw3⟩ : ∃ w3, w2.putObj L (.loop { state := .exhausted, pending := jump, fn := f, tmps := tmps', params := ps, assign := asg, body := body, defers := df' }) = w3 := ⟨_, rfl⟩
    rw [hw3] at hE2 hR2
    have hrunE' : (Instr.endLoop L).run P w2 = .ok jump w3 := by rw [hrunE, ← hw3]
    -- the state behind the loop
    have hrep3 : Rep ⟨n, dropTm (0, ms) tm, (ls, .gone) :: hp', up'⟩ β2 own2 a w3 := by
      refine ⟨hrep1.size, hrep1.defers, fun t p hp => ?_, ?_⟩
      · simp only at hp
        rw [look_dropTm] at hp
        cases hq : look tm t with
        | none => rw [hq] at hp; cases hp
        | some q => rw [hq] at hp; simp at hp; subst hp; exact ((hrep1.tm t q hq).mono (hext.trans hE2)).drop hne
      · have := hR2.drop (0, ls)
        refine ⟨fun m c hm => ?_, fun m1 m2 c1 c2 h1 h2 l1 l2 hn' => ?_, this.lt⟩
        · rw [lookF_cons] at hm
          by_cases e : m = (0, ls)
          · rw [if_pos e] at hm; simp at hm; subst hm; exact .gone _
          · rw [if_neg e] at hm
            refine this.blk m c ?_
            rw [lookF_upd, if_neg e, lookF_upd, if_neg e, lookF_cons, if_neg e]; exact hm
        · have key : ∀ m c, lookF (push ((ls, .gone) :: hp') up') m = some c → c.live = true → lookF (upd (upd (push ((ls, .lp n f ps asg body st' state jump) :: hp') up') (0, ls) (.lp n f ps asg body st' .exhausted jump)) (0, ls) .gone) m = some c := by
            intro m c hm hc
            rw [lookF_cons] at hm
            by_cases e : m = (0, ls)
            · rw [if_pos e] at hm; simp at hm; subst hm; cases hc
            · rw [if_neg e] at hm
              rw [lookF_upd, if_neg e, lookF_upd, if_neg e, lookF_cons, if_neg e]; exact hm
          exact this.inj m1 m2 c1 c2 (key m1 c1 h1 l1) (key m2 c2 h2 l2) l1 l2 hn'
    have hob : outn β2 = outn β := by
      rw [← ho1]; funext x; exact hne _ (by simp)
    have hn2 : RndOK R (outn β2) b2 := by rw [RndOK, hrnd]; exact hb0
    have hD2 : w.heap.size < w1.heap.size ∧ ¬ own1 w.heap.size := ⟨by omega, fun h => by
      rcases h with h | h
      · have := hrep.heap.lt _ h; omega
      · omega⟩
    obtain ⟨w', fr', r', H', ownm, β', h1, h2, h3, h4, h5, h6, h7⟩ := hrun β2 own2 a w3 hrep3 b2 hb hbk hn2 cs
    rw [hob] at h6
    rw [hrnd] at h7
    obtain ⟨a1, ⟨Ds, a2, a3, a4⟩, a5⟩ := h7
    have hext3 := hext.trans hE2
    have hD3 : w3.heap[w.heap.size]? = some (.deferred (some [])) := by rw [hext3.block _ hD2.1 hD2.2]; exact hD1
    have hD4 : w'.heap[w.heap.size]? = some (.deferred (some [])) := by
      rw [h5.block _ (Nat.lt_of_lt_of_le hD2.1 hext3.size) (hext3.owns _ hD2.1 hD2.2)]; exact hD3
    have hsteps : Steps P (lone (am b a (.code (.rangeFunc g ps asg body) :: k)) cs w) (lone (am b2 a ((jump.map Item.code).toList ++ k)) cs w3) := by
      refine .head hstep (Steps.trans hcomes (.head (step_leave_returned hleave) (.one ?_)))
      rw [am, finish_atR_inRangeFunc]
      exact stepR_endRangeFunc hrunE'
    refine ⟨w', fr', r', H', ownm, β', Steps.trans hsteps h1, h2, h3, h4, (hE1.trans hext3).trans h5, h6, ?_⟩
    rw [hrnd]
    refine ⟨a1, ⟨Ds ++ [w.heap.size], by rw [a2]; simp [b2], ?_, fun D hD => ?_⟩, a5⟩
    · rw [List.nodup_append]
      refine ⟨a3, by simp, fun x hx y hy => ?_⟩
      simp at hy; subst hy
      have := (a4 x hx).1
      have h3s : w1.heap.size ≤ w3.heap.size := hext3.size
      omega
    · rw [List.mem_append, List.mem_singleton] at hD
      rcases hD with hD | rfl
      · exact ⟨by have := (a4 D hD).1; have h3s : w1.heap.size ≤ w3.heap.size := hext3.size; omega, (a4 D hD).2⟩
      · exact ⟨Nat.le_refl _, hD4⟩
end Go.Ab
namespace Go.Ab
set_option linter.unusedVariables false
set_option linter.unusedSimpArgs false
variable {P : Program} {f : FuncId} {R : Post} {k : List Item} {all : Array Oper} {l : List Oper}
variable {n : Nat} {tm : List (Nat × PV)} {hp : Hp} {up : Hf} {d : Nat} {ty tx ty' : TypeId} {pos : String} {aft : Array Edge} {gd : Option (Nat × Bool)} {x y : Operand}
/-- an empty slice may be nil, or not -/
theorem o_eqnil0 {e : TypeId} {ti : TI} [ht : HasT P tx ti] (hk : ti.kind = .slice e) (hev : St.evs ⟨n, tm, hp, up⟩ [x, y] = some [.d (.slice []), .d (.lit nilS)]) (hd : d < n)
    (h : ∀ b : Bool, Ops P f R all l k ⟨n, (d, B b) :: tm, hp, up⟩) : Op1 P f R all ⟨some d, .binOp .eql tx x y ty', ty, pos, aft, gd⟩ l k ⟨n, tm, hp, up⟩ := by
  intro i is ho his β own a w hrep hw b hb hbk hn cs
  have hx : St.ev ⟨n, tm, hp, up⟩ x = some (.d (.slice [])) ∧ St.ev ⟨n, tm, hp, up⟩ y = some (.d (.lit nilS)) := by
    simp only [St.evs] at hev
    cases h1 : St.ev ⟨n, tm, hp, up⟩ x with
    | none => rw [h1] at hev; cases hev
    | some p =>
      rw [h1] at hev
      cases h2 : St.ev ⟨n, tm, hp, up⟩ y with
      | none => rw [h2] at hev; cases hev
      | some q => rw [h2] at hev; simp at hev; exact ⟨by rw [hev.1], by rw [hev.2]⟩
  have h1 := hrep.ev hx.1
  have h2 := (hrep.ev hx.2).lit
  generalize hv : a.eval x = v at h1
  have key : ∃ r : Bool, (execOp a.eval ⟨some d, .binOp .eql tx x y ty', ty, pos, aft, gd⟩).run P w = .ok (.value (.bool r)) w := by
    cases h1 with
    | d _ _ h1 =>
      have hs : ∃ ad len cap, v = .slice ad len cap := by
        cases h1 with
        | nil a cap => exact ⟨a, 0, cap, rfl⟩
        | slice _ g o cap k c => exact ⟨_, _, cap, rfl⟩
      obtain ⟨ad, len, cap, rfl⟩ := hs
      obtain ⟨r, hq⟩ : ∃ r : Bool, (binOp .eql tx (.slice ad len cap) nilS).run P w = .ok (.bool r) w := ⟨_, Lib.run_eql_slice_nil w tx e ad len cap 0 0 (ht.slice hk)⟩
      refine ⟨r, ?_⟩
      simp only [execOp, h2, hv]
      rw [Sem.run_bind]
      have : (eqGuard .eql tx x y (.slice ad len cap) nilS).run P w = .ok () w := by simp [eqGuard, nilS]
      simp only [Sem.run_bind, this]
      show (Sem.run P (binOp .eql tx (.slice ad len cap) nilS) w).andThen _ = _
      rw [hq]; rfl
  obtain ⟨r, hrun⟩ := key
  have hrep' := hrep.put (dst := some d) (p := B r) (v := .bool r) (by simp [St.fits, hd]) (PR.B r)
  exact (h r is his β own _ w hrep' b hb hbk hn cs).of_steps (am_val ho hw hrun (.inl rfl))
/-- own boxes, a name in them said in the other words -/
theorem r_alias' (t : Nat) {a b : Nm} (hal : look tm t = some (.al a b)) (h : Run P f R k ⟨n, tm, aliasHp b a hp, up⟩) : Run P f R k ⟨n, tm, hp, up⟩ := by
  refine Run.le (s := ⟨n, tm, aliasHp b a hp, up⟩) (fun β own ac w hr => ⟨β, rfl, hr.size, hr.defers, hr.tm, ?_⟩) h
  have hab : β a = β b := by
    have := hr.tm _ _ hal
    generalize ac.tmps.getD t undef = v at this
    cases this with | al _ _ h _ => exact h
  exact hr.heap.alias hab.symm
section
variable {k0 k2 : IntKind} {a b c : Int} {z : Operand}
theorem v_quoe (ha : 0 ≤ a) (hb : 0 < b) (hr : k0.wrap c = c) (he : a / b = c) : Val P (.binOp .quo tx x y ty') ty [(x, I k0 a), (y, I k0 b)] [] (I k0 c) := by
  subst he; exact v_quo ha hb hr
theorem v_max3 {ats : Array TypeId} : Val P (.call ⟨.builtin .max, #[x, y, z], ats⟩) ty [(x, I k0 a), (y, I k0 b), (z, I k0 c)] [] (I k0 (max (max a b) c)) := fun d pos aft gd n tm hp up hd hx hb =>
  does_pure rfl hd fun β own ac w hr => by
    have h1 := (hr.ev hx.1).lit
    have h2 := (hr.ev hx.2.1).lit
    have h3 := (hr.ev hx.2.2.1).lit
    refine ⟨.int k0 (max (max a b) c), ?_, .I _ _⟩
    have e1 : max a b = if a < b then b else a := by omega
    have e2 : max (max a b) c = if max a b < c then c else max a b := by omega
    rw [e2, e1]
    simp [execOp, resolve, invoke, builtin, Builtin.max_, Builtin.max2, h1, h2, h3]
end
/-- a call in a drawn region that changes one block of one's own and reads others -/
theorem t_effr {id : Nat} {ops : List Oper} {s0 : St} {done : List Eff} {g : FuncId} {args : List Operand} {ps : List PV} {ats : Array TypeId} {bs : List (Nm × Blk)} {gr : List (Nat × PV)} {ms : Nat} {b b' : Blk} {p : PV} (hsp : Eff1 P g ps (((0, ms), b) :: bs) [((0, ms), b')] p) (hg : GOK ops.toArray gd gr ⟨n, tm, hp, up⟩)
    (hev : St.evs ⟨n, tm, hp, up⟩ args = some ps) (hb : look hp ms = some b) (hbs : BkE ⟨n, tm, hp, up⟩ bs) (hd : d < n)
    (h : Tr P f R id ops k s0 (done ++ [⟨gr ++ rd (args.zip ps), ((0, ms), b) :: bs, [], [(d, p)], [((0, ms), b')]⟩]) ⟨n, (d, p) :: tm, (ms, b') :: hp, up⟩ l) :
    Tr P f R id ops k s0 done ⟨n, tm, hp, up⟩ (⟨some d, .call ⟨.value (.func g), args.toArray, ats⟩, ty, pos, aft, gd⟩ :: l) :=
  t_call hsp hg hev (by simp only [BkE, List.map_cons, List.cons.injEq]; exact ⟨hb, hbs⟩) hd rfl h
end Go.Ab
namespace Go.Ab
set_option linter.unusedVariables false
set_option linter.unusedSimpArgs false
variable {P : Program} {f : FuncId} {R : Post} {k : List Item} {all : Array Oper} {o : Oper} {l : List Oper}
variable {n : Nat} {tm : List (Nat × PV)} {hp : Hp} {up : Hf} {d : Nat} {ty : TypeId} {pos : String} {aft : Array Edge} {gd : Option (Nat × Bool)} {op : Op} {p : PV}
theorem dropTm_no {m : Nm} : ∀ {tm : List (Nat × PV)}, saysTm m tm = false → dropTm m tm = tm
  | [], _ => rfl
  | (t, p) :: r, h => by
    simp only [saysTm, Bool.or_eq_false_iff] at h
    rw [dropTm, h.1, dropTm_no h.2]; rfl
theorem bkN {e t : Nat} {b : Blk} (h : up e t = some b) : BkE ⟨n, tm, hp, up⟩ [((e + 1, t), b)] := by
  simp only [BkE, List.map_cons, List.map_nil, List.cons.injEq, and_true]; exact h
/-- a call of a function that binds a name of a caller's anew, what is said of memory before and behind it being given whole -/
theorem o_specf {g : FuncId} {args : List Operand} {ps : List PV} {ats : Array TypeId} {m : Nm} {up' : Hf} (hsp : SpecV P g ps (push hp up) ⟨fun r H' => r = .v p ∧ H' = push hp up', fun x => x = (m.1 + 1, m.2), none⟩) (hev : St.evs ⟨n, tm, hp, up⟩ args = some ps)
    (hq : saysTm (m.1 + 1, m.2) tm = false) (hv : R.vol m) (hd : d < n) (h : Ops P f R all l k ⟨n, (d, p) :: tm, hp, up'⟩) :
    Op1 P f R all ⟨some d, .call ⟨.value (.func g), args.toArray, ats⟩, ty, pos, aft, gd⟩ l k ⟨n, tm, hp, up⟩ := by
  refine o_enterV (g := g) fun β own a w hr => ?_
  obtain ⟨vals, hrun, hargs⟩ := run_call (first := []) (cap := []) hr (fo := .func g) rfl hev hsp.plain (dst := some d) (ats := ats) (ty := ty) (pos := pos) (aft := aft) (gd := gd)
  refine ⟨vals.toArray, w, own, hrun, Ext.refl _ _, (hsp.run β own w vals hr.heap (by simpa using hargs)).mono fun e w' hfin => ?_⟩
  obtain ⟨v, r, H, own', β', he, ⟨hr1, hH⟩, hrv, hheap, hext, hβ⟩ := hfin
  subst hr1
  cases hrv with
  | v _ _ hpv =>
    have key : ∀ x : Nm, ((x.1 + 1, x.2) : Nm) = (m.1 + 1, m.2) → R.vol x := fun x e => by
      have e1 : x.1 + 1 = m.1 + 1 := (Prod.mk.inj e).1
      have e2 : x.2 = m.2 := (Prod.mk.inj e).2
      have : x = m := Prod.ext (by omega) e2
      rw [this]; exact hv
    refine ⟨v, β', own', _, he, ?_, hext, fun x hx => hβ _ (fun e => hx (key x e)), h⟩
    · have hr' : Rep ⟨n, tm, hp, up'⟩ β' own' a w' := by
        refine ⟨hr.size, hr.defers, fun t q hq' => ?_, by rw [← hH]; exact hheap⟩
        simp only at hq'
        have := ((hr.tm t q hq').mono hext).drop (m := (m.1 + 1, m.2)) (β' := β') hβ
        have hs : q.says (m.1 + 1, m.2) = false := by
          have hd' := look_dropTm (m := (m.1 + 1, m.2)) (tm := tm) (t := t)
          rw [dropTm_no hq, hq'] at hd'
          simp only [Option.map_some, Option.some.injEq] at hd'
          cases hh : q.says (m.1 + 1, m.2) with
          | false => rfl
          | true => rw [hh] at hd'; simp at hd'; subst hd'; cases hh
        rw [hs] at this
        exact this
      exact hr'.put (dst := some d) (p := p) (v := v) (by simp [St.fits, hd]) hpv
/-- a call of yield, what is said of memory before and behind it being given whole -/
theorem o_yieldf {fo : Operand} {args : List Operand} {m mv : Nm} {ps : List PV} {ats : Array TypeId} {up' : Hf} (hsp : SpecY P m ps (push hp up) (fun r H' => r = .v p ∧ H' = push hp up') (fun x => x = (mv.1 + 1, mv.2))) (hfo : St.ev ⟨n, tm, hp, up⟩ fo = some (.yl m)) (hev : St.evs ⟨n, tm, hp, up⟩ args = some ps)
    (hq : saysTm (mv.1 + 1, mv.2) tm = false) (hv : R.vol mv) (hd : d < n) (h : Ops P f R all l k ⟨n, (d, p) :: tm, hp, up'⟩) :
    Op1 P f R all ⟨some d, .call ⟨.value fo, args.toArray, ats⟩, ty, pos, aft, gd⟩ l k ⟨n, tm, hp, up⟩ := by
  refine o_yield hsp hfo hev (fun x e => ?_) hd (fun r H hr => ?_)
  · have e1 := congrArg Prod.fst e
    have e2 := congrArg Prod.snd e
    have : x = mv := Prod.ext (by simp at e1; omega) e2.symm
    rw [this]; exact hv
  · obtain ⟨rfl, rfl⟩ := hr
    rw [dropTm_no hq]
    exact ⟨p, hp, up', rfl, rfl, h⟩
/-- a name bound anew at the depth one call further in -/
theorem push_updN (hp : Hp) (up : Hf) (m : Nm) (b : Blk) : upd (push hp up) (m.1 + 1, m.2) b = push hp (upd up m b) := by
  funext d s
  cases d with
  | zero => simp [upd, push]
  | succ d => simp [upd, push]
end Go.Ab
namespace Go.Ab
set_option linter.unusedVariables false
set_option linter.unusedSimpArgs false
variable {P : Program} {f : FuncId} {R : Post} {k : List Item} {all : Array Oper} {o : Oper} {l : List Oper}
variable {n : Nat} {tm : List (Nat × PV)} {hp : Hp} {up : Hf} {d : Nat} {ty : TypeId} {pos : String} {aft : Array Edge} {gd : Option (Nat × Bool)} {op : Op} {p : PV}
def PV.give1 (y : Nat) (m : Nm) : PV → PV
  | .ptr q off => if q == (0, y) then .ptr m off else .ptr q off
  | p => p
def PV.giveF (y : Nat) (m : Nm) : PV → PV
  | .fn g first cap => .fn g (first.map (PV.give1 y m)) (cap.map (PV.give1 y m))
  | p => p.give1 y m
def giveTm (y : Nat) (m : Nm) : List (Nat × PV) → List (Nat × PV)
  | [] => []
  | (t, p) :: r => (t, if p.says m then .any else p.giveF y m) :: giveTm y m r
theorem look_giveTm {m : Nm} {y : Nat} : ∀ {tm : List (Nat × PV)} {t : Nat}, look (giveTm y m tm) t = (look tm t).map fun p => if p.says m then .any else p.giveF y m
  | [], t => rfl
  | (k, p) :: r, t => by
    simp only [giveTm, look]
    split
    · rfl
    · exact look_giveTm
theorem PR.give1 {β : Nm → Value} {w : World} {own : Nat → Prop} {m : Nm} {y : Nat} (hm : β m = β (0, y)) {p : PV} {v : Value} (h : PR β w own p v) : PR β w own (p.give1 y m) v := by
  cases p with
  | ptr q off =>
    simp only [PV.give1]
    split
    · rename_i e; simp at e; subst e
      cases h with | ptr _ _ g hg => exact .ptr _ _ g (by rw [hm]; exact hg)
    · exact h
  | _ => exact h
theorem PR.giveF {β : Nm → Value} {w : World} {own : Nat → Prop} {m : Nm} {y : Nat} (hm : β m = β (0, y)) {p : PV} {v : Value} (h : PR β w own p v) : PR β w own (p.giveF y m) v := by
  cases p with
  | fn g first cap =>
    cases h with
    | fn _ _ _ fv cv h1 h2 h3 h4 =>
      refine .fn g _ _ fv cv (by simpa using h1) (by simpa using h2) (fun j x u hx hu => ?_) (fun j x u hx hu => ?_)
      · rw [List.getElem?_map] at hx
        cases hj : first[j]? with
        | none => rw [hj] at hx; simp at hx
        | some z => rw [hj] at hx; simp at hx; subst hx; exact (h3 j z u hj hu).give1 hm
      · rw [List.getElem?_map] at hx
        cases hj : cap[j]? with
        | none => rw [hj] at hx; simp at hx
        | some z => rw [hj] at hx; simp at hx; subst hx; exact (h4 j z u hj hu).give1 hm
  | _ => exact h.give1 hm
/-- an own variable handed to a caller under that caller's name for it, which is bound anew -/
theorem r_giveb (y md ms : Nat) {cs : List PV} {q : Blk} (hb : look hp y = some (.box cs)) (hq0 : q.lift (md + 1) = .box cs) (hg : up md ms = some .gone) (hvol : R.vol (md, ms)) (hq : quietHp (md + 1, ms) hp = true) (hup : QuietM up (md, ms))
    (h : Run P f R k ⟨n, giveTm y (md + 1, ms) tm, (y, .gone) :: hp, upd up (md, ms) q⟩) : Run P f R k ⟨n, tm, hp, up⟩ := by
  refine Run.stepV (s := ⟨n, tm, hp, up⟩) (s' := ⟨n, giveTm y (md + 1, ms) tm, (y, .gone) :: hp, upd up (md, ms) q⟩) (fun β own a w hr b' fs => ?_) h
  let β' : Nm → Value := fun m => if m = (md + 1, ms) then β (0, y) else β m
  have hne : ∀ m, m ≠ (md + 1, ms) → β' m = β m := fun m hm => by simp [β', hm]
  have hsame : β' (md + 1, ms) = β' (0, y) := by simp [β']
  have hy : β' (0, y) = β (0, y) := hne _ (by simp)
  have hold : ∀ m c, lookF (push hp up) m = some c → c.says (md + 1, ms) = false := fun m c hc => quiet_lookF (quiet_push (m := (md, ms)) hq hup) hc
  have hgone : lookF (push hp up) (md + 1, ms) = some .gone := by simp [lookF, push, hg, Blk.lift]
  have h1 : HR (push hp up) β' own w := by
    refine ⟨fun m c hc => ?_, fun m1 m2 c1 c2 e1 e2 l1 l2 hn => ?_, hr.heap.lt⟩
    · by_cases hm : m = (md + 1, ms)
      · subst hm
        rw [hgone] at hc; simp at hc; subst hc; exact .gone _
      · rw [hne m hm]; exact (hr.heap.blk m c hc).reβ (md + 1, ms) hne (hold m c hc)
    · have hg1 : ∀ m c, lookF (push hp up) m = some c → c.live = true → m ≠ (md + 1, ms) := by
        rintro m c hc hl rfl
        rw [hgone] at hc; simp at hc; subst hc; cases hl
      rw [hne m1 (hg1 m1 c1 e1 l1), hne m2 (hg1 m2 c2 e2 l2)]
      exact hr.heap.inj m1 m2 c1 c2 e1 e2 l1 l2 hn
  refine ⟨β', own, a, w, ⟨hr.size, hr.defers, fun t p hp' => ?_, ?_⟩, Ext.refl _ _, fun m hm => ?_, .refl _ _⟩
  · simp only at hp'
    rw [look_giveTm] at hp'
    cases hq' : look tm t with
    | none => rw [hq'] at hp'; cases hp'
    | some q1 =>
      rw [hq'] at hp'; simp at hp'; subst hp'
      split
      · exact .any _
      · rename_i hs
        exact ((hr.tm t q1 hq').reβ (md + 1, ms) hne (by simpa using hs)).giveF hsame
  · have hrow : lookF (push hp up) (0, y) = some (.box cs) := hb
    have key : ∀ m c, lookF (push ((y, .gone) :: hp) (upd up (md, ms) q)) m = some c → c.live = true → (m = (md + 1, ms) ∧ c = .box cs) ∨ (m ≠ (md + 1, ms) ∧ m ≠ (0, y) ∧ lookF (push hp up) m = some c) := by
      intro m c hm hc
      rw [lookF_cons] at hm
      by_cases e1 : m = (0, y)
      · rw [if_pos e1] at hm; simp at hm; subst hm; cases hc
      · rw [if_neg e1, push_upd, lookF_upd] at hm
        by_cases e2 : m = (md + 1, ms)
        · rw [if_pos e2] at hm; simp [atF] at hm; rw [hq0] at hm; exact .inl ⟨e2, hm.symm⟩
        · rw [if_neg e2] at hm; exact .inr ⟨e2, e1, hm⟩
    refine ⟨fun m c hm => ?_, fun m1 m2 c1 c2 e1 e2 l1 l2 hn g hg' => ?_, h1.lt⟩
    · cases hc : c.live with
      | false => cases c <;> first | (simp [Blk.live] at hc; done) | exact .gone _
      | true =>
        rcases key m c hm hc with ⟨rfl, rfl⟩ | ⟨_, _, h3⟩
        · rw [hsame]; exact h1.blk _ _ hrow
        · exact h1.blk m c h3
    · rcases key m1 c1 e1 l1 with ⟨rfl, rfl⟩ | ⟨n1, n1', h3⟩
      · rcases key m2 c2 e2 l2 with ⟨rfl, rfl⟩ | ⟨n2, n2', h4⟩
        · exact absurd rfl hn
        · rw [hsame] at hg'
          exact h1.inj (0, y) m2 _ c2 hrow h4 l1 l2 (Ne.symm n2') g hg'
      · rcases key m2 c2 e2 l2 with ⟨rfl, rfl⟩ | ⟨n2, n2', h4⟩
        · rw [hsame]
          exact h1.inj m1 (0, y) c1 _ h3 hrow l1 l2 n1' g hg'
        · exact h1.inj m1 m2 c1 c2 h3 h4 l1 l2 hn g hg'
  · refine hne _ fun e => hm ?_
    have e1 : m.1 + 1 = md + 1 := (Prod.mk.inj e).1
    have e2 : m.2 = ms := (Prod.mk.inj e).2
    have : m = (md, ms) := Prod.ext (by omega) e2
    subst this
    exact hvol
/-- a function value as the result -/
theorem res_fn {fn : Func} {s : St} {t : Nat} (q : PV) (h : fn.results = #[.tmp t]) (ht : look s.tm t = some (q.lift 1)) : Res P fn s (.v q) := fun β own a w hrep =>
  ⟨a.tmps.getD t undef, own, by simp [results, h], Ext.refl _ _, hrep.heap.outer, .v _ _ ((hrep.tm t _ ht).low q rfl)⟩
/-- a name of one's own that holds nothing yet -/
theorem r_forget (y : Nat) (h : Run P f R k ⟨n, tm, (y, .gone) :: hp, up⟩) : Run P f R k ⟨n, tm, hp, up⟩ := by
  refine Run.le (s := ⟨n, tm, (y, .gone) :: hp, up⟩) (fun β own ac w hr => ⟨β, rfl, hr.size, hr.defers, hr.tm, ?_⟩) h
  have := hr.heap.drop (0, y)
  refine ⟨fun m c hm => ?_, fun m1 m2 c1 c2 h1 h2 l1 l2 hn' => ?_, this.lt⟩
  · rw [lookF_cons] at hm
    by_cases e : m = (0, y)
    · rw [if_pos e] at hm; simp at hm; subst hm; exact .gone _
    · rw [if_neg e] at hm; exact hr.heap.blk m c hm
  · have key : ∀ m c, lookF (push ((y, .gone) :: hp) up) m = some c → c.live = true → lookF (push hp up) m = some c := by
      intro m c hm hc
      rw [lookF_cons] at hm
      by_cases e : m = (0, y)
      · rw [if_pos e] at hm; simp at hm; subst hm; cases hc
      · rw [if_neg e] at hm; exact hm
    exact hr.heap.inj m1 m2 c1 c2 (key m1 c1 h1 l1) (key m2 c2 h2 l2) l1 l2 hn'
theorem saysTm_get {m : Nm} : ∀ {tm : List (Nat × PV)} {t : Nat} {q : PV}, saysTm m tm = false → look tm t = some q → q.says m = false
  | [], t, q, _, h => by simp [look] at h
  | (k, p) :: r, t, q, hs, h => by
    simp only [saysTm, Bool.or_eq_false_iff] at hs
    simp only [look] at h
    split at h
    · simp at h; subst h; exact hs.1
    · exact saysTm_get hs.2 h
/-- a call of a function that binds two own names anew, what is said of memory before and behind it being given whole -/
theorem o_spec2 {g : FuncId} {args : List Operand} {ps : List PV} {ats : Array TypeId} {a b : Nat} {hp' : Hp} {up' : Hf} (hsp : SpecV P g ps (push hp up) ⟨fun r H' => r = .v p ∧ H' = push hp' up', fun x => x = (0, a) ∨ x = (0, b), none⟩) (hev : St.evs ⟨n, tm, hp, up⟩ args = some ps)
    (hqa : saysTm (0, a) tm = false) (hqb : saysTm (0, b) tm = false) (hd : d < n) (h : Ops P f R all l k ⟨n, (d, p) :: tm, hp', up'⟩) :
    Op1 P f R all ⟨some d, .call ⟨.value (.func g), args.toArray, ats⟩, ty, pos, aft, gd⟩ l k ⟨n, tm, hp, up⟩ := by
  refine o_enterV (g := g) fun β own ac w hr => ?_
  obtain ⟨vals, hrun, hargs⟩ := run_call (first := []) (cap := []) hr (fo := .func g) rfl hev hsp.plain (dst := some d) (ats := ats) (ty := ty) (pos := pos) (aft := aft) (gd := gd)
  refine ⟨vals.toArray, w, own, hrun, Ext.refl _ _, (hsp.run β own w vals hr.heap (by simpa using hargs)).mono fun e w' hfin => ?_⟩
  obtain ⟨v, r, H, own', β', he, ⟨hr1, hH⟩, hrv, hheap, hext, hβ⟩ := hfin
  subst hr1
  cases hrv with
  | v _ _ hpv =>
    refine ⟨v, β', own', _, he, ?_, hext, fun x hx => hβ _ (fun e => ?_), h⟩
    · have hr' : Rep ⟨n, tm, hp', up'⟩ β' own' ac w' := by
        refine ⟨hr.size, hr.defers, fun t q hq' => ?_, by rw [← hH]; exact hheap⟩
        simp only at hq'
        let β1 : Nm → Value := fun x => if x = (0, a) then β' (0, a) else β x
        have h1 := ((hr.tm t q hq').mono hext).reβ (β' := β1) (0, a) (fun m hm => by simp [β1, hm]) (saysTm_get hqa hq')
        refine h1.reβ (β' := β') (0, b) (fun m hm => ?_) (saysTm_get hqb hq')
        by_cases e : m = (0, a)
        · subst e; simp [β1]
        · simp only [β1, e, if_false]
          exact hβ m fun hv => hv.elim e hm
      exact hr'.put (dst := some d) (p := p) (v := v) (by simp [St.fits, hd]) hpv
    · rcases e with e | e <;> simp at e
end Go.Ab
namespace Go.Ab
set_option linter.unusedVariables false
set_option linter.unusedSimpArgs false
variable {P : Program} {f : FuncId} {R : Post} {k : List Item} {all : Array Oper} {o : Oper} {l : List Oper}
variable {n : Nat} {tm : List (Nat × PV)} {hp : Hp} {up : Hf} {d : Nat} {ty : TypeId} {pos : String} {aft : Array Edge} {gd : Option (Nat × Bool)} {op : Op} {p : PV}
theorem o_specc {g : FuncId} {fo : Operand} {args : List Operand} (first cap ps : List PV) {ats : Array TypeId} (hsp : Spec P g (first ++ ps ++ cap) (push hp up) (fun r H' => r = .v p ∧ H' = push hp up)) (hfo : St.ev ⟨n, tm, hp, up⟩ fo = some (.fn (.func g) first cap)) (hev : St.evs ⟨n, tm, hp, up⟩ args = some ps)
    (hd : d < n) (h : Ops P f R all l k ⟨n, (d, p) :: tm, hp, up⟩) :
    Op1 P f R all ⟨some d, .call ⟨.value fo, args.toArray, ats⟩, ty, pos, aft, gd⟩ l k ⟨n, tm, hp, up⟩ := by
  refine o_enterV (g := g) fun β own ac w hr => ?_
  obtain ⟨vals, hrun, hargs⟩ := run_call hr hfo hev hsp.plain (dst := some d) (ats := ats) (ty := ty) (pos := pos) (aft := aft) (gd := gd)
  refine ⟨vals.toArray, w, own, hrun, Ext.refl _ _, (hsp.run β own w vals hr.heap hargs).mono fun e w' hfin => ?_⟩
  obtain ⟨v, r, H, own', he, ⟨hr1, hH⟩, hrv, hheap, hext⟩ := hfin
  subst hr1
  cases hrv with
  | v _ _ hpv =>
    refine ⟨v, β, own', _, he, ?_, hext, fun x hx => rfl, h⟩
    have hr' : Rep ⟨n, tm, hp, up⟩ β own' ac w' := ⟨hr.size, hr.defers, fun t q hq' => (hr.tm t q hq').mono hext, by rw [← hH]; exact hheap⟩
    exact hr'.put (dst := some d) (p := p) (v := v) (by simp [St.fits, hd]) hpv
theorem eff_at {g : FuncId} {ps : List PV} {bs hs : List (Nm × Blk)} (h : Eff1 P g ps bs hs p) (H : Hf) (hb : ∀ q ∈ bs, H q.1.1 q.1.2 = some q.2) : Spec P g ps H (fun r H' => r = .v p ∧ H' = updL H hs) := h H hb
theorem upd_push0 {a c : Nat} {b q : Blk} (h : a ≠ c) : upd (push ((a, b) :: hp) up) (0, c) q = push ((a, b) :: (c, q) :: hp) up := by
  funext d s
  cases d with
  | zero =>
    simp only [upd, push, look, true_and]
    by_cases h1 : s = c
    · subst h1; rw [if_pos rfl, if_neg h, if_pos rfl]
    · rw [if_neg h1]
      by_cases h2 : a = s
      · rw [if_pos h2, if_pos h2]
      · rw [if_neg h2, if_neg h2, if_neg (Ne.symm h1)]
  | succ d => simp [upd, push]
theorem upd_swap {H : Hf} {a b : Nm} {p q : Blk} (h : a ≠ b) : upd (upd H a p) b q = upd (upd H b q) a p := by
  funext d s
  simp only [upd]
  by_cases h1 : d = b.1 ∧ s = b.2
  · rw [if_pos h1, if_pos h1, if_neg (fun h2 => h (Prod.ext (h2.1.symm.trans h1.1) (h2.2.symm.trans h1.2)))]
  · rw [if_neg h1, if_neg h1]
end Go.Ab
namespace Go.Ab
set_option linter.unusedVariables false
set_option linter.unusedSimpArgs false
variable {P : Program} {ty tx ty' : TypeId} {x y z : Operand}
theorem HasT.ptr {t : TypeId} {ti : TI} (h : HasT P t ti) {e : TypeId} (hk : ti.kind = .ptr e) : P.underlying t = some (.pointer (P.pointee t)) := by
  have h0 : P.underlying t = some (.pointer e) := by
    obtain ⟨i, u, z, hi, hu, hz, hs, hb, hk', _⟩ := h.get
    rw [hk] at hk'
    cases u <;> simp [TK.ofD] at hk' <;> simp_all
  have : P.pointee t = e := by simp [Program.pointee, h0]
  rw [this]; exact h0
abbrev nilP : Value := .pointer none
theorem v_pnileq {e : TypeId} {ti : TI} [ht : HasT P tx ti] (hk : ti.kind = .ptr e) : Val P (.binOp .eql tx x y ty') ty [(x, .d (.lit nilP)), (y, .d (.lit nilP))] [] (B true) := fun d pos aft gd n tm hp up hd hx _ =>
  d_bin hx.1 hx.2.1 hd rfl fun w => by
    have : (eqGuard .eql tx x y nilP nilP).run P w = .ok () w := by simp [eqGuard, nilP]
    have key : (binOp .eql tx nilP nilP).run P w = _ := run_eql_pointer_nil w tx none (ht.ptr hk)
    simp only [Sem.run_bind, this]
    show Sem.run P (binOp .eql tx nilP nilP) w = _
    rw [key]; rfl
theorem v_pnilne {e : TypeId} {ti : TI} [ht : HasT P tx ti] (hk : ti.kind = .ptr e) : Val P (.binOp .neq tx x y ty') ty [(x, .d (.lit nilP)), (y, .d (.lit nilP))] [] (B false) := fun d pos aft gd n tm hp up hd hx _ =>
  d_bin hx.1 hx.2.1 hd rfl fun w => by
    have : (eqGuard .neq tx x y nilP nilP).run P w = .ok () w := by simp [eqGuard, nilP]
    have key : (binOp .neq tx nilP nilP).run P w = _ := run_neq_pointer_nil w tx none (ht.ptr hk)
    simp only [Sem.run_bind, this]
    show Sem.run P (binOp .neq tx nilP nilP) w = _
    rw [key]; rfl
theorem v_peq {e o : TypeId} {m : Nm} {ti : TI} [ht : HasT P tx ti] (hk : ti.kind = .ptr e) : Val P (.binOp .eql tx x y ty') ty [(x, .ptr m o), (y, .d (.lit nilP))] [] (B false) := fun d pos aft gd n tm hp up hd hx _ =>
  does_pure rfl hd fun β own ac w hrp => by
    have h1 := hrp.ev hx.1
    have h2 := (hrp.ev hx.2.1).lit
    generalize hv : ac.eval x = v at h1
    cases h1 with
    | ptr _ _ g hg =>
      refine ⟨.bool false, ?_, PR.B _⟩
      simp only [execOp, h2, hv]
      rw [Sem.run_bind]
      have : (eqGuard .eql tx x y (.pointer (some ⟨g, o, none⟩)) nilP).run P w = .ok () w := by simp [eqGuard, nilP]
      have key : (binOp .eql tx (.pointer (some ⟨g, o, none⟩)) nilP).run P w = _ := run_eql_pointer_nil w tx (some ⟨g, o, none⟩) (ht.ptr hk)
      simp only [Sem.run_bind, this]
      show (Sem.run P (binOp .eql tx (.pointer (some ⟨g, o, none⟩)) nilP) w).andThen _ = _
      rw [key]; rfl
theorem v_pne {e o : TypeId} {m : Nm} {ti : TI} [ht : HasT P tx ti] (hk : ti.kind = .ptr e) : Val P (.binOp .neq tx x y ty') ty [(x, .ptr m o), (y, .d (.lit nilP))] [] (B true) := fun d pos aft gd n tm hp up hd hx _ =>
  does_pure rfl hd fun β own ac w hrp => by
    have h1 := hrp.ev hx.1
    have h2 := (hrp.ev hx.2.1).lit
    generalize hv : ac.eval x = v at h1
    cases h1 with
    | ptr _ _ g hg =>
      refine ⟨.bool true, ?_, PR.B _⟩
      simp only [execOp, h2, hv]
      rw [Sem.run_bind]
      have : (eqGuard .neq tx x y (.pointer (some ⟨g, o, none⟩)) nilP).run P w = .ok () w := by simp [eqGuard, nilP]
      have key : (binOp .neq tx (.pointer (some ⟨g, o, none⟩)) nilP).run P w = _ := run_neq_pointer_nil w tx (some ⟨g, o, none⟩) (ht.ptr hk)
      simp only [Sem.run_bind, this]
      show (Sem.run P (binOp .neq tx (.pointer (some ⟨g, o, none⟩)) nilP) w).andThen _ = _
      rw [key]; rfl
end Go.Ab
namespace Go.Ab
set_option linter.unusedVariables false
set_option linter.unusedSimpArgs false
variable {P : Program} {f : FuncId} {R : Post} {k : List Item} {all : Array Oper} {o : Oper} {l : List Oper}
variable {n : Nat} {tm : List (Nat × PV)} {hp : Hp} {up : Hf} {d : Nat}
def PV.renT (a b : Nat) (p : PV) : PV := match p with
  | .tup vs => .tup (vs.map (PV.ren a b))
  | p => p.ren a b
def renTT (a b : Nat) : List (Nat × PV) → List (Nat × PV)
  | [] => []
  | (t, p) :: r => (t, p.renT a b) :: renTT a b r
theorem look_renTT {a b : Nat} : ∀ {tm : List (Nat × PV)} {t : Nat}, look (renTT a b tm) t = (look tm t).map (PV.renT a b)
  | [], t => rfl
  | (k, p) :: r, t => by
    simp only [renTT, look]
    split
    · rfl
    · exact look_renTT
theorem PR.renT {β : Nm → Value} {w : World} {own : Nat → Prop} {x y : Nat} {p : PV} {v : Value} (h : PR β w own p v) : PR (setβ β y (β (0, x))) w own (p.renT x y) v := by
  cases p with
  | tup vs =>
    cases h with
    | tup _ xs h1 h2 =>
      refine .tup _ xs (by simpa using h1) fun j q u hq hu => ?_
      rw [List.getElem?_map] at hq
      cases hj : vs[j]? with
      | none => rw [hj] at hq; simp at hq
      | some z => rw [hj] at hq; simp at hq; subst hq; exact (h2 j z u hj hu).ren
  | _ => exact h.ren
theorem r_renT (a b : Nat) {q : Blk} (hb : look hp a = some q) (hab : (!(a == b) && !q.says (0, b)) = true) (h : Run P f R k ⟨n, renTT a b tm, (b, q) :: (a, .gone) :: renHp a b hp, up⟩) : Run P f R k ⟨n, tm, hp, up⟩ := by
  simp only [Bool.and_eq_true, Bool.not_eq_true', beq_eq_false_iff_ne] at hab
  refine Run.step (fun β own ac w hr _ _ => ⟨setβ β b (β (0, a)), own, ac, w, ?_, Ext.refl _ _, outn_setβ _ _ _, .refl _ _⟩) h
  have h1 := hr.ren hab.1 hb hab.2
  refine ⟨h1.size, h1.defers, fun t p hp' => ?_, h1.heap⟩
  simp only at hp'
  rw [look_renTT] at hp'
  cases hq : look tm t with
  | none => rw [hq] at hp'; cases hp'
  | some z => rw [hq] at hp'; simp at hp'; subst hp'; exact (hr.tm t z hq).renT
theorem o_renT (a b : Nat) {q : Blk} (hb : look hp a = some q) (hab : (!(a == b) && !q.says (0, b)) = true) (h : Ops P f R all l k ⟨n, renTT a b tm, (b, q) :: (a, .gone) :: renHp a b hp, up⟩) : Ops P f R all l k ⟨n, tm, hp, up⟩ :=
  fun is his => r_renT a b hb hab (h is his)
section
variable {ty : TypeId} {pos : String} {aft : Array Edge} {gd : Option (Nat × Bool)} {p : PV} {g : FuncId} {args : List Operand} {ps : List PV} {ats : Array TypeId} {bs : List (Nm × Blk)}
/-- a call that only reads blocks -/
theorem o_effd (hsp : Eff1 P g ps bs [] p) (hev : St.evs ⟨n, tm, hp, up⟩ args = some ps) (hbs : BkE ⟨n, tm, hp, up⟩ bs) (hd : d < n) (h : Ops P f R all l k ⟨n, (d, p) :: tm, hp, up⟩) :
    Op1 P f R all ⟨some d, .call ⟨.value (.func g), args.toArray, ats⟩, ty, pos, aft, gd⟩ l k ⟨n, tm, hp, up⟩ := o_eff hsp hev hbs hd rfl h
theorem t_effd {id : Nat} {ops : List Oper} {s0 : St} {done : List Eff} {gr : List (Nat × PV)} (hsp : Eff1 P g ps bs [] p) (hg : GOK ops.toArray gd gr ⟨n, tm, hp, up⟩)
    (hev : St.evs ⟨n, tm, hp, up⟩ args = some ps) (hbs : BkE ⟨n, tm, hp, up⟩ bs) (hd : d < n)
    (h : Tr P f R id ops k s0 (done ++ [⟨gr ++ rd (args.zip ps), bs, [], [(d, p)], []⟩]) ⟨n, (d, p) :: tm, hp, up⟩ l) :
    Tr P f R id ops k s0 done ⟨n, tm, hp, up⟩ (⟨some d, .call ⟨.value (.func g), args.toArray, ats⟩, ty, pos, aft, gd⟩ :: l) := t_call hsp hg hev hbs hd rfl h
end
end Go.Ab
