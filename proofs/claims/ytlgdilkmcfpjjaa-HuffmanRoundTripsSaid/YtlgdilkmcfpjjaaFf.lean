/- A law holds for every input; no condition. -/
import Derived.Test.YtlgdilkmcfpjjaaFe
import Derived.Test.YtlgdilkmcfpjjaaFd
set_option linter.all false
set_option linter.unusedVariables false
set_option linter.unusedSimpArgs false
namespace Go.Ab
set_option linter.unusedVariables false
set_option linter.unusedSimpArgs false
theorem eff_swap {P : Program} {g : FuncId} {ps : List PV} {a b : Nm × Blk} {bs hs : List (Nm × Blk)} {p : PV} (h : Eff1 P g ps (a :: b :: bs) hs p) : Eff1 P g ps (b :: a :: bs) hs p :=
  fun H hH => h H fun q hq => hH q (by simp only [List.mem_cons] at hq ⊢; rcases hq with h | h | h <;> simp [h])
end Go.Ab
namespace Go.Ab
open Go.ChangeShapes Go.WideShapes Go.ChangeAt Go.RowKit
set_option linter.unusedVariables false
set_option linter.unusedSimpArgs false

/-- what data of a type looks like: cells -/
inductive Sh (P : Program) : TypeId → List D → Prop where
  | int (t : TypeId) (k : IntKind) (z : Int) (ht : P.underlying t = some (.int k)) (h1 : k.min ≤ z) (h2 : z ≤ k.max) : Sh P t [.lit (.int k z)]
  | bool (t : TypeId) (b : Bool) (ht : P.underlying t = some .bool) : Sh P t [.lit (.bool b)]
  | str (t : TypeId) (s : ByteArray) (ht : P.underlying t = some .string) (hs : s.size ≤ maxLen) : Sh P t [.lit (.string s)]
  | slice (t e : TypeId) (xs : List (List D)) (ht : P.underlying t = some (.slice e)) (hl : xs.length ≤ maxLen) (hx : ∀ x ∈ xs, Sh P e x) : Sh P t [.slice xs]
  | struct (t : TypeId) (fs : List Field) (parts : List (List D)) (ht : P.underlying t = some (.struct fs.toArray)) (hl : parts.length = fs.length) (hp : ∀ (i : Nat) (f : Field) (x : List D), fs[i]? = some f → parts[i]? = some x → Sh P f.type x) : Sh P t parts.flatten

def layB (P : Program) : Nat → List Field → Option Nat
  | o, [] => some o
  | o, f :: r => if f.offset = o then layB P (o + P.cellsOf f.type) r else none
/-- types of data, closed under their parts -/
def closedB (P : Program) (G : List TypeId) : Bool := G.all fun t => match P.underlying t with
  | some .bool => true
  | some (.int _) => true
  | some .string => true
  | some (.slice e) => G.contains e && decide (0 < P.cellsOf e)
  | some (.struct fs) => fs.toList.all (fun f => G.contains f.type) && layB P 0 fs.toList == some (P.cellsOf t)
  | _ => false

def CD (w : World) (own : Nat → Prop) (ds : List D) (cs : List Value) : Prop :=
  ds.length = cs.length ∧ (∀ v ∈ cs, v.oneCell' = true) ∧ ∀ (j : Nat) (x : D) (v : Value), ds[j]? = some x → cs[j]? = some v → DR w own x v
theorem CD.one {w : World} {own : Nat → Prop} {x : D} {v : Value} (h : DR w own x v) (h1 : v.oneCell' = true) : CD w own [x] [v] :=
  ⟨rfl, by simpa using h1, fun j y u hy hu => by
    cases j with
    | zero => simp at hy hu; subst hy; subst hu; exact h
    | succ j => simp at hy⟩
theorem CD.nil {w : World} {own : Nat → Prop} : CD w own [] [] := ⟨rfl, by simp, by simp⟩
theorem CD.append {w : World} {own : Nat → Prop} {a b : List D} {u v : List Value} (h : CD w own a u) (h' : CD w own b v) : CD w own (a ++ b) (u ++ v) := by
  refine ⟨by simp [h.1, h'.1], fun x hx => ?_, fun j x y hx hy => ?_⟩
  · rw [List.mem_append] at hx
    exact hx.elim (h.2.1 x) (h'.2.1 x)
  · by_cases hj : j < a.length
    · rw [List.getElem?_append_left hj] at hx
      rw [List.getElem?_append_left (by rw [← h.1]; exact hj)] at hy
      exact h.2.2 j x y hx hy
    · rw [List.getElem?_append_right (by omega)] at hx
      rw [List.getElem?_append_right (by rw [← h.1]; omega)] at hy
      rw [← h.1] at hy
      exact h'.2.2 _ x y hx hy

theorem lay_cat {P : Program} (cs : List Value) : ∀ (fs : List Field) (o e : Nat), layB P o fs = some e → e ≤ cs.length → (fs.map fun f => (cs.drop f.offset).take (P.cellsOf f.type)).flatten = (cs.drop o).take (e - o) ∧ o ≤ e
  | [], o, e, h, he => by simp [layB] at h; subst h; simp
  | f :: r, o, e, h, he => by
    rw [layB] at h
    split at h
    · rename_i ho
      obtain ⟨h1, h2⟩ := lay_cat cs r _ e h he
      refine ⟨?_, by omega⟩
      rw [List.map_cons, List.flatten_cons, h1, ho, show e - o = P.cellsOf f.type + (e - (o + P.cellsOf f.type)) by omega, List.take_add, List.drop_drop]
    · cases h

variable {H : Type} {enc : TypeId × Value → H} {P : Program}
theorem cd_flat {w : World} {own : Nat → Prop} : ∀ (parts : List (List D)) (vs : List (List Value)), parts.length = vs.length → (∀ (i : Nat) (a : List D) (b : List Value), parts[i]? = some a → vs[i]? = some b → CD w own a b) → CD w own parts.flatten vs.flatten
  | [], [], _, _ => CD.nil
  | a :: p, b :: v, hl, h => by
    rw [List.flatten_cons, List.flatten_cons]
    exact (h 0 a b rfl rfl).append (cd_flat p v (by simpa using hl) fun i x y hx hy => h (i + 1) x y (by simpa using hx) (by simpa using hy))
  | [], _ :: _, h, _ => by simp at h
  | _ :: _, [], h, _ => by simp at h
theorem list_choose {α β : Type} {p : Nat → α → β → Prop} : ∀ (l : List α) (o : Nat), (∀ (i : Nat) (a : α), l[i]? = some a → ∃ b, p (o + i) a b) → ∃ r : List β, r.length = l.length ∧ ∀ (i : Nat) (a : α) (b : β), l[i]? = some a → r[i]? = some b → p (o + i) a b
  | [], o, h => ⟨[], rfl, by simp⟩
  | x :: l, o, h => by
    obtain ⟨b, hb⟩ := h 0 x rfl
    obtain ⟨r, h1, h2⟩ := list_choose l (o + 1) fun i a ha => by
      obtain ⟨c, hc⟩ := h (i + 1) a (by simpa using ha)
      exact ⟨c, by rw [show o + 1 + i = o + (i + 1) by omega]; exact hc⟩
    refine ⟨b :: r, by simp [h1], fun i a c ha hc => ?_⟩
    cases i with
    | zero => simp at ha hc; subst ha; subst hc; exact hb
    | succ i =>
      have := h2 i a c (by simpa using ha) (by simpa using hc)
      rw [show o + (i + 1) = o + 1 + i by omega]; exact this

theorem sh_in {W : World} {base : Nat} {sp : Nat → Bool} {held : Bool} {G : List TypeId} (hG : closedB P G = true) : ∀ (fuel : Nat) (t : TypeId) (cs : List Value) (x : DataW H × List MemPlace), t ∈ G → DataW.trod enc P W base sp held fuel t cs = some x →
    ∃ ds, Sh P t ds ∧ CD W (fun _ => False) ds cs := by
  intro fuel
  induction fuel using Nat.strongRecOn with
  | _ fuel ih =>
  intro t cs x ht h
  have hg := List.all_eq_true.1 hG t ht
  cases hu : P.underlying t with
  | none => rw [hu] at hg; simp at hg
  | some u =>
    rw [hu] at hg
    cases u with
    | bool =>
      obtain ⟨b, rfl, _⟩ := DataW.trod_bool hu h
      exact ⟨_, .bool t b hu, .one (.lit _ rfl) rfl⟩
    | int k =>
      obtain ⟨z, rfl, _, hw⟩ := DataW.trod_int hu h
      simp only [Lit.wf, Bool.and_eq_true, decide_eq_true_eq] at hw
      exact ⟨_, .int t k z hu hw.1 hw.2, .one (.lit _ rfl) rfl⟩
    | string =>
      obtain ⟨s, rfl, _, hs⟩ := DataW.trod_string hu h
      exact ⟨_, .str t s hu hs, .one (.lit _ rfl) rfl⟩
    | slice e =>
      simp only [Bool.and_eq_true, decide_eq_true_eq] at hg
      obtain ⟨he, hc0⟩ := hg
      have he : e ∈ G := List.contains_iff_mem.1 he
      rcases DataW.trod_slice hu h with ⟨rfl, _⟩ | ⟨a, len, cap, elems, rest, n, hfu, rfl, _, hb, hl, hm, hlen, hel, _⟩
      · exact ⟨_, .slice t e [] hu (by simp) (by simp), .one (.nil none 0) rfl⟩
      · by_cases h0 : len = 0
        · subst h0
          exact ⟨_, .slice t e [] hu (by simp) (by simp), .one (.nil _ _) rfl⟩
        have each : ∀ i, i < len → ∃ cs' : List Value, W.cells? base (a.add (i * P.cellsOf e)) (P.cellsOf e) = some cs' ∧ ∃ ds, Sh P e ds ∧ CD W (fun _ => False) ds cs' := fun i hi => by
          have h1 := hel i hi
          rw [List.getElem?_eq_getElem (by omega)] at h1
          obtain ⟨cs', h2, h3⟩ := Option.bind_eq_some_iff.1 h1
          exact ⟨cs', h2, ih n (by omega) e cs' _ he h3⟩
        obtain ⟨r, hr1, hr2⟩ := list_choose (p := fun i (_ : Nat) (b : List D × List Value) => W.cells? base (a.add (i * P.cellsOf e)) (P.cellsOf e) = some b.2 ∧ Sh P e b.1 ∧ CD W (fun _ => False) b.1 b.2) (List.range len) 0 fun i q hq => by
          have : i < len := by have := (List.getElem?_eq_some_iff.1 hq).1; simpa using this
          obtain ⟨cs', h2, ds, h3, h4⟩ := each i this
          exact ⟨(ds, cs'), by simpa using h2, h3, h4⟩
        rw [List.length_range] at hr1
        have hr : ∀ (i : Nat) (b : List D × List Value), r[i]? = some b → W.cells? base (a.add (i * P.cellsOf e)) (P.cellsOf e) = some b.2 ∧ Sh P e b.1 ∧ CD W (fun _ => False) b.1 b.2 := fun i b hb => by
          have hi : i < len := by have := (List.getElem?_eq_some_iff.1 hb).1; omega
          have := hr2 i i b (List.getElem?_range hi) hb
          simpa using this
        obtain ⟨g, o, spn⟩ := a
        obtain ⟨b0, hb0⟩ : ∃ b0, r[0]? = some b0 := ⟨_, List.getElem?_eq_getElem (by omega)⟩
        have hc := (World.cells?_some (hr 0 b0 hb0).1).2.2 0 hc0
        have hlen0 := (World.cells?_some (hr 0 b0 hb0).1).2.1
        simp only [Nat.zero_mul, Addr.add, if_true, World.cell?] at hc
        rw [List.getElem?_eq_getElem (by omega)] at hc
        have hg' : g < W.heap.size := by
          cases hq : W.heap[g]? with
          | none => rw [hq] at hc; simp at hc
          | some q => exact (Array.getElem?_eq_some_iff.1 hq).1
        have hsp : spn = none := by
          cases spn with
          | none => rfl
          | some q =>
            cases hq : W.heap[g]? with
            | none => rw [hq] at hc; simp at hc
            | some b => rw [hq] at hc; cases b <;> simp at hc
        subst hsp
        have hxl : (r.map (·.1)).length = len := by simp [hr1]
        refine ⟨[.slice (r.map (·.1))], .slice t e _ hu (by rw [hxl]; omega) (fun x hx => ?_), .one ?_ rfl⟩
        · simp only [List.mem_map] at hx
          obtain ⟨b, hb, rfl⟩ := hx
          obtain ⟨i, hi⟩ := List.getElem?_of_mem hb
          exact (hr i b hi).2.1
        · have := DR.slice (w := W) (own := fun _ => False) (r.map (·.1)) g o cap (P.cellsOf e) (fun i j => ((r.getD i ([], [])).2).getD j undef) (by rw [hxl]; exact hl) (fun f => f) hg'
            (by
              intro x hx
              simp only [List.mem_map] at hx
              obtain ⟨b, hb, rfl⟩ := hx
              obtain ⟨i, hi⟩ := List.getElem?_of_mem hb
              rw [(hr i b hi).2.2.1]; exact (World.cells?_some (hr i b hi).1).2.1)
            (by
              intro i hi j hj
              rw [hxl] at hi
              obtain ⟨b, hb⟩ : ∃ b, r[i]? = some b := ⟨_, List.getElem?_eq_getElem (by omega)⟩
              have hg1 : r.getD i ([], []) = b := by rw [List.getD, hb]; rfl
              obtain ⟨k1, k2, k3⟩ := hr i b hb
              obtain ⟨_, q2, q3⟩ := World.cells?_some k1
              have := q3 j hj
              rw [Go.Ab.addr_add, Go.Ab.addr_add, Nat.add_assoc] at this
              rw [hg1]
              obtain ⟨v, hv⟩ : ∃ v, b.2[j]? = some v := ⟨_, List.getElem?_eq_getElem (by omega)⟩
              have hgv : b.2.getD j undef = v := by rw [List.getD, hv]; rfl
              rw [hgv]
              exact ⟨this.trans hv, k3.2.1 v (List.mem_of_getElem? hv)⟩)
            (by
              intro i x hx j y hy
              rw [List.getElem?_map] at hx
              cases hb : r[i]? with
              | none => rw [hb] at hx; simp at hx
              | some b =>
                rw [hb] at hx; simp at hx; subst hx
                have hg1 : r.getD i ([], []) = b := by rw [List.getD, hb]; rfl
                obtain ⟨k1, k2, k3⟩ := hr i b hb
                have hj : j < b.2.length := by rw [← k3.1]; exact (List.getElem?_eq_some_iff.1 hy).1
                obtain ⟨v, hv⟩ : ∃ v, b.2[j]? = some v := ⟨_, List.getElem?_eq_getElem hj⟩
                have hgv : b.2.getD j undef = v := by rw [List.getD, hv]; rfl
                rw [hg1, hgv]
                exact k3.2.2 j y v hy hv)
          rw [hxl] at this
          exact this
    | struct fs =>
      simp only [Bool.and_eq_true, beq_iff_eq] at hg
      obtain ⟨hfs, hlay⟩ := hg
      obtain ⟨xs, n, hfu, _, hcl, hxl, hf⟩ := DataW.trod_struct hu h
      obtain ⟨r, hr1, hr2⟩ := list_choose (p := fun i (f : Field) (b : List D) => Sh P f.type b ∧ CD W (fun _ => False) b ((cs.drop f.offset).take (P.cellsOf f.type))) fs.toList 0 fun i f hif => by
        have h1 := hf i f (by simpa using hif)
        have hi : i < fs.size := by have := (List.getElem?_eq_some_iff.1 hif).1; simpa using this
        rw [List.getElem?_eq_getElem (by omega)] at h1
        have hfg : f.type ∈ G := List.contains_iff_mem.1 (List.all_eq_true.1 hfs f (List.mem_of_getElem? hif))
        obtain ⟨ds, h2, h3⟩ := ih n (by omega) f.type _ _ hfg h1
        exact ⟨ds, h2, h3⟩
      obtain ⟨e1, _⟩ := lay_cat cs fs.toList 0 _ hlay (by omega)
      rw [List.drop_zero, Nat.sub_zero, ← hcl, List.take_length] at e1
      refine ⟨r.flatten, .struct t fs.toList r (by simpa using hu) hr1 (fun i f x h1 h2 => (hr2 i f x h1 h2).1), ?_⟩
      rw [← e1]
      refine cd_flat r _ (by simp [hr1]) fun i a b ha hb => ?_
      rw [List.getElem?_map] at hb
      cases hif : fs.toList[i]? with
      | none => rw [hif] at hb; simp at hb
      | some f => rw [hif] at hb; simp at hb; subst hb; exact (hr2 i f a hif ha).2
    | _ => simp at hg
/-- one value that came in -/
theorem in_data {W : World} {t : TypeId} {v : Value} {d : DataW H} {p : List MemPlace} {r : Reach} {b0 : Nat} {G : List TypeId} (hG : closedB P G = true) (ht : G.contains t = true) (hval : Value.okWide P W r b0 t v)
    (h : DataW.Trod enc P W 0 (fun _ => true) true t v d p) : ∃ ds, Sh P t ds ∧ ((∃ fs, P.underlying t = some (.struct fs)) → DR W (fun _ => False) (.agg ds) v) ∧ (∀ x, ds = [x] → (∀ fs, P.underlying t ≠ some (.struct fs)) → DR W (fun _ => False) x v) := by
  obtain ⟨fuel, h⟩ := h
  obtain ⟨ds, h1, h2⟩ := sh_in hG fuel t _ _ (List.contains_iff_mem.1 ht) h
  refine ⟨ds, h1, fun ⟨fs, hs⟩ => ?_, fun x hx hn => ?_⟩
  · obtain ⟨cs, rfl, _⟩ := okWide_struct hs hval
    simp only [Value.cells] at h2
    have := DR.agg ds cs.toList h2.1 h2.2.1 h2.2.2
    simpa using this
  · subst hx
    have hc : v.cells.toList = [v] := by
      have hg := List.all_eq_true.1 hG t (List.contains_iff_mem.1 ht)
      cases hu : P.underlying t with
      | none => rw [hu] at hg; simp at hg
      | some u =>
        rw [hu] at hg
        cases u with
        | bool => obtain ⟨b, rfl⟩ := okWide_bool hu hval; rfl
        | int k => obtain ⟨b, rfl⟩ := okWide_int hu hval; rfl
        | string => obtain ⟨b, rfl⟩ := okWide_string hu hval; rfl
        | slice e => obtain ⟨a, l, c, rfl⟩ := okWide_slice hu hval; rfl
        | struct fs => exact absurd hu (hn fs)
        | _ => simp at hg
    rw [hc] at h2
    exact h2.2.2 0 x v rfl rfl
theorem Sh.inv_int {t : TypeId} {ds : List D} {k : IntKind} (h : Sh P t ds) (ht : P.underlying t = some (.int k)) : ∃ z : Int, ds = [.lit (.int k z)] ∧ k.min ≤ z ∧ z ≤ k.max := by
  cases h with
  | int _ k' z h1 h2 h3 => rw [ht] at h1; simp at h1; subst h1; exact ⟨z, rfl, h2, h3⟩
  | bool _ b h1 => rw [ht] at h1; simp at h1
  | str _ s h1 => rw [ht] at h1; simp at h1
  | slice _ e xs h1 => rw [ht] at h1; simp at h1
  | struct _ fs p h1 => rw [ht] at h1; simp at h1
theorem Sh.inv_bool {t : TypeId} {ds : List D} (h : Sh P t ds) (ht : P.underlying t = some .bool) : ∃ b : Bool, ds = [.lit (.bool b)] := by
  cases h with
  | int _ k' z h1 h2 h3 => rw [ht] at h1; simp at h1
  | bool _ b h1 => exact ⟨b, rfl⟩
  | str _ s h1 => rw [ht] at h1; simp at h1
  | slice _ e xs h1 => rw [ht] at h1; simp at h1
  | struct _ fs p h1 => rw [ht] at h1; simp at h1
theorem Sh.inv_str {t : TypeId} {ds : List D} (h : Sh P t ds) (ht : P.underlying t = some .string) : ∃ s : ByteArray, ds = [.lit (.string s)] ∧ s.size ≤ maxLen := by
  cases h with
  | int _ k' z h1 h2 h3 => rw [ht] at h1; simp at h1
  | bool _ b h1 => rw [ht] at h1; simp at h1
  | str _ s h1 hs => exact ⟨s, rfl, hs⟩
  | slice _ e xs h1 => rw [ht] at h1; simp at h1
  | struct _ fs p h1 => rw [ht] at h1; simp at h1
theorem Sh.inv_slice {t e : TypeId} {ds : List D} (h : Sh P t ds) (ht : P.underlying t = some (.slice e)) : ∃ xs : List (List D), ds = [.slice xs] ∧ xs.length ≤ maxLen ∧ ∀ x ∈ xs, Sh P e x := by
  cases h with
  | int _ k' z h1 h2 h3 => rw [ht] at h1; simp at h1
  | bool _ b h1 => rw [ht] at h1; simp at h1
  | str _ s h1 hs => rw [ht] at h1; simp at h1
  | slice _ e' xs h1 h2 h3 => rw [ht] at h1; simp at h1; subst h1; exact ⟨xs, rfl, h2, h3⟩
  | struct _ fs p h1 => rw [ht] at h1; simp at h1
/-- a slice whose elements are of a known form -/
theorem Sh.inv_list {t e : TypeId} {ds : List D} {α : Type} (f : α → List D) (Q : α → Prop) (h : Sh P t ds) (ht : P.underlying t = some (.slice e)) (he : ∀ x, Sh P e x → ∃ a, x = f a ∧ Q a) : ∃ l : List α, ds = [.slice (l.map f)] ∧ l.length ≤ 9223372036854775807 ∧ ∀ a ∈ l, Q a := by
  obtain ⟨xs, rfl, h1, h2⟩ := h.inv_slice ht
  have : ∀ xs : List (List D), (∀ x ∈ xs, Sh P e x) → ∃ l : List α, xs = l.map f ∧ ∀ a ∈ l, Q a := by
    intro xs
    induction xs with
    | nil => exact fun _ => ⟨[], rfl, by simp⟩
    | cons x xs ih =>
      intro h
      obtain ⟨a, ha, hq⟩ := he x (h x (by simp))
      obtain ⟨l, hl, hq'⟩ := ih fun y hy => h y (by simp [hy])
      exact ⟨a :: l, by rw [ha, hl]; rfl, by simpa using ⟨hq, hq'⟩⟩
  obtain ⟨l, hl, hq⟩ := this xs h2
  refine ⟨l, by rw [hl], ?_, hq⟩
  have := congrArg List.length hl
  simp [maxLen] at this h1 ⊢
  omega
/-- cells of several types, one behind another -/
def ShL (P : Program) : List TypeId → List D → Prop
  | [], ds => ds = []
  | t :: ts, ds => ∃ a b, ds = a ++ b ∧ Sh P t a ∧ ShL P ts b
theorem Sh.inv_struct {t : TypeId} {ds : List D} {fs : Array Field} (h : Sh P t ds) (ht : P.underlying t = some (.struct fs)) : ShL P (fs.toList.map (·.type)) ds := by
  cases h with
  | int _ k' z h1 h2 h3 => rw [ht] at h1; simp at h1
  | bool _ b h1 => rw [ht] at h1; simp at h1
  | str _ s h1 hs => rw [ht] at h1; simp at h1
  | slice _ e' xs h1 h2 h3 => rw [ht] at h1; simp at h1
  | struct _ fs' p h1 hl hp =>
    rw [ht] at h1; simp at h1
    subst h1
    have : ∀ (fs : List Field) (p : List (List D)), p.length = fs.length → (∀ (i : Nat) (f : Field) (x : List D), fs[i]? = some f → p[i]? = some x → Sh P f.type x) → ShL P (fs.map (·.type)) p.flatten := by
      intro fs
      induction fs with
      | nil => intro p hl _; cases p with | nil => rfl | cons _ _ => simp at hl
      | cons f fs ih =>
        intro p hl hp
        cases p with
        | nil => simp at hl
        | cons x p =>
          exact ⟨x, p.flatten, rfl, hp 0 f x rfl rfl, ih p (by simpa using hl) fun i g y h1 h2 => hp (i + 1) g y (by simpa using h1) (by simpa using h2)⟩
    simpa using this fs' p hl hp
def fieldTypes (P : Program) (t : TypeId) : Option (List TypeId) := match P.underlying t with
  | some (.struct fs) => some (fs.toList.map (·.type))
  | _ => none
theorem fieldTypes_some {t : TypeId} {ts : List TypeId} (h : fieldTypes P t = some ts) : ∃ fs, P.underlying t = some (.struct fs) ∧ fs.toList.map (·.type) = ts := by
  unfold fieldTypes at h
  cases hu : P.underlying t with
  | none => rw [hu] at h; simp at h
  | some u =>
    rw [hu] at h
    cases u <;> simp at h
    exact ⟨_, rfl, by simpa using h⟩
theorem Sh.inv_fields {t : TypeId} {ds : List D} {ts : List TypeId} (h : Sh P t ds) (ht : fieldTypes P t = some ts) : ShL P ts ds := by
  obtain ⟨fs, h1, h2⟩ := fieldTypes_some ht
  rw [← h2]; exact h.inv_struct h1
theorem in_struct {W : World} {t : TypeId} {v : Value} {d : DataW H} {p : List MemPlace} {r : Reach} {b0 : Nat} {G ts : List TypeId} (hG : closedB P G = true) (ht : G.contains t = true) (hf : fieldTypes P t = some ts) (hval : Value.okWide P W r b0 t v)
    (h : DataW.Trod enc P W 0 (fun _ => true) true t v d p) : ∃ ds, ShL P ts ds ∧ DR W (fun _ => False) (.agg ds) v := by
  obtain ⟨ds, h1, h2, _⟩ := in_data hG ht hval h
  obtain ⟨fs, h3, h4⟩ := fieldTypes_some hf
  exact ⟨ds, h1.inv_fields hf, h2 ⟨fs, h3⟩⟩
theorem in_one {W : World} {t : TypeId} {v : Value} {d : DataW H} {p : List MemPlace} {r : Reach} {b0 : Nat} {G : List TypeId} (hG : closedB P G = true) (ht : G.contains t = true) (hf : fieldTypes P t = none) (hval : Value.okWide P W r b0 t v)
    (h : DataW.Trod enc P W 0 (fun _ => true) true t v d p) : ∃ ds, Sh P t ds ∧ ∀ x, ds = [x] → DR W (fun _ => False) x v := by
  obtain ⟨ds, h1, _, h2⟩ := in_data hG ht hval h
  exact ⟨ds, h1, fun x hx => h2 x hx fun fs hs => by simp [fieldTypes, hs] at hf⟩
end Go.Ab
