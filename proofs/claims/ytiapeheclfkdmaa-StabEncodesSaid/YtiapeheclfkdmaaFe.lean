/- The framework of this proof, fourth part: maps, function values, rows of callers, shifts, last operations in order, names bound anew. -/
import Derived.Test.YtiapeheclfkdmaaFc
import Derived.MapKept
import Derived.WalkSpells
import Derived.Lib.SliceRun
import Derived.Laws.BytesArg
set_option linter.all false
set_option linter.unusedVariables false
set_option linter.unusedSimpArgs false
namespace Go.Ab
open Go.MapKept
set_option linter.unusedVariables false
set_option linter.unusedSimpArgs false
set_option linter.unusedSectionVars false

section
variable {α : Type} [DecidableEq α]
/-- an entry laid: the first one with this key is turned, or one more is put behind -/
def mput : List (α × D) → α → D → List (α × D)
  | [], a, v => [(a, v)]
  | (b, u) :: r, a, v => if b = a then (a, v) :: r else (b, u) :: mput r a v
def mget : List (α × D) → α → Option D
  | [], _ => none
  | (b, u) :: r, a => if b = a then some u else mget r a
theorem mput_new : ∀ (q : List (α × D)) (a : α) (v : D), (∀ x ∈ q, x.1 ≠ a) → mput q a v = q ++ [(a, v)]
  | [], a, v, _ => rfl
  | (b, u) :: r, a, v, h => by
    have h1 : b ≠ a := h (b, u) (by simp)
    rw [mput, if_neg h1, mput_new r a v fun x hx => h x (by simp [hx])]; rfl
theorem mput_old : ∀ (q : List (α × D)) (a : α) (v : D) (j : Nat) (x : α × D), q[j]? = some x → x.1 = a → (∀ i < j, ∀ y, q[i]? = some y → y.1 ≠ a) → mput q a v = q.set j (a, v)
  | [], a, v, j, x, h, _, _ => by simp at h
  | (b, u) :: r, a, v, 0, x, h, hx, _ => by
    simp at h; subst h
    rw [mput, if_pos hx]; rfl
  | (b, u) :: r, a, v, j + 1, x, h, hx, hn => by
    have h1 : b ≠ a := hn 0 (by omega) (b, u) rfl
    rw [mput, if_neg h1, mput_old r a v j x (by simpa using h) hx fun i hi y hy => hn (i + 1) (by omega) y (by simpa using hy)]; rfl
theorem mget_new : ∀ (q : List (α × D)) (a : α), (∀ x ∈ q, x.1 ≠ a) → mget q a = none
  | [], a, _ => rfl
  | (b, u) :: r, a, h => by
    have h1 : b ≠ a := h (b, u) (by simp)
    rw [mget, if_neg h1, mget_new r a fun x hx => h x (by simp [hx])]
theorem mget_old : ∀ (q : List (α × D)) (a : α) (j : Nat) (x : α × D), q[j]? = some x → x.1 = a → (∀ i < j, ∀ y, q[i]? = some y → y.1 ≠ a) → mget q a = some x.2
  | [], a, j, x, h, _, _ => by simp at h
  | (b, u) :: r, a, 0, x, h, hx, _ => by
    simp at h; subst h
    rw [mget, if_pos hx]
  | (b, u) :: r, a, j + 1, x, h, hx, hn => by
    have h1 : b ≠ a := hn 0 (by omega) (b, u) rfl
    rw [mget, if_neg h1, mget_old r a j x (by simpa using h) hx fun i hi y hy => hn (i + 1) (by omega) y (by simpa using hy)]

/-- keys of a kind -/
structure KeyK (d : TypeDesc) (g : α → Value) : Prop where
  key : ∀ a, IsKey d (g a)
  inj : ∀ a b, g a = g b → a = b
theorem keyInt (k : IntKind) : KeyK (.int k) (fun x : Int => Value.int k x) := ⟨fun a => rfl, fun a b h => by simpa using h⟩
theorem keyStr : KeyK .string (fun x : ByteArray => Value.string x) := ⟨fun a => trivial, fun a b h => by simpa using h⟩

theorem findNow_q {d : TypeDesc} {g : α → Value} (hk : KeyK d g) (a : α) : ∀ (q : List (α × D)) (l : List MapEntry) (i : Nat), q.length = l.length → (∀ (j : Nat) (x : α × D) (m : MapEntry), q[j]? = some x → l[j]? = some m → m.key = g x.1) →
    ((∀ x ∈ q, x.1 ≠ a) ∧ Instr.findNow d (g a) l i = some none) ∨
    ∃ (j : Nat) (x : α × D) (m : MapEntry), q[j]? = some x ∧ l[j]? = some m ∧ x.1 = a ∧ (∀ i' < j, ∀ y, q[i']? = some y → y.1 ≠ a) ∧ Instr.findNow d (g a) l i = some (some (i + j, m.val))
  | [], [], i, _, _ => .inl ⟨by simp, rfl⟩
  | [], _ :: _, i, h, _ => by simp at h
  | _ :: _, [], i, h, _ => by simp at h
  | x :: q, m :: l, i, hl, h => by
    have hm := h 0 x m rfl rfl
    obtain ⟨r, hr, hiff⟩ := sameNow_of_keys (hk.key a) (hk.key x.1)
    rw [← hm] at hr
    cases r with
    | true =>
      have e : a = x.1 := hk.inj _ _ (hiff.1 rfl)
      exact .inr ⟨0, x, m, rfl, rfl, e.symm, fun i' hi' => by omega, by simp [Instr.findNow, hr]⟩
    | false =>
      have hne : x.1 ≠ a := fun e => by rw [e] at hiff; have := hiff.2 rfl; cases this
      rcases findNow_q hk a q l (i + 1) (by simpa using hl) (fun j y z hy hz => h (j + 1) y z (by simpa using hy) (by simpa using hz)) with ⟨h1, h2⟩ | ⟨j, y, z, h1, h2, h3, h4, h5⟩
      · exact .inl ⟨by simpa [hne] using h1, by simp [Instr.findNow, hr, h2]⟩
      · refine .inr ⟨j + 1, y, z, by simpa using h1, by simpa using h2, h3, fun i' hi' w hw => ?_, by simp [Instr.findNow, hr, h5]; omega⟩
        cases i' with
        | zero => simp at hw; subst hw; exact hne
        | succ i' => exact h4 i' (by omega) w (by simpa using hw)
end

variable {P : Program} {f : FuncId} {R : Post} {k : List Item} {all : Array Oper} {o : Oper} {l : List Oper}
variable {n : Nat} {tm : List (Nat × PV)} {hp : Hp} {up : Hf} {d : Nat} {ty : TypeId} {pos : String} {aft : Array Edge} {gd : Option (Nat × Bool)} {op : Op} {p : PV}
variable {α : Type} [DecidableEq α] {g : α → Value} {kd : TypeDesc} {q : List (α × D)} {x y z : Operand} {t kt et : TypeId} {ti : TI}

theorem does_mkmap {t : TypeId} (hd : d < n) (hf : (freeHp d hp && freeTm d tm) = true) :
    Does P ⟨some d, .makeMap t none, ty, pos, aft, gd⟩ ⟨n, tm, hp, up⟩ ⟨n, (d, .ref (0, d)) :: tm, (d, .mp []) :: hp, up⟩ := by
  intro β own a w hrep
  have he := Ext.alloc w own (.map #[] 0)
  have hv : blockOf (.map (some w.heap.size)) = some w.heap.size := rfl
  have hin := hrep.install (d := d) hf he (fun g hg => by rcases hg with hg | rfl; exact Nat.lt_of_lt_of_le (hrep.heap.lt g hg) (by simp); simp) (v := .map (some w.heap.size)) (b := .mp [])
    (alloc_keep hrep.heap _ _ _ hv)
    (.mp w.heap.size 0 [] [] (.inr rfl) (alloc_new w _) rfl (fun j x m hx => by simp at hx) List.Pairwise.nil (fun m hm => by simp at hm))
  refine ⟨_, _, _, setβ β d (.map (some w.heap.size)), _, by simp [execOp, Instr.makeMap, Result.andThen]; rfl, .inl rfl, ?_, he, outn_setβ _ _ _⟩
  have := hin.put (dst := some d) (p := .ref (0, d)) (v := .map (some w.heap.size)) (by simp [St.fits, hd]) (by have := PR.ref (β := setβ β d (.map (some w.heap.size))) (w := w.alloc (.map #[] 0)) (own := fun g => own g ∨ g = w.heap.size) (0, d); rwa [setβ_same] at this)
  simpa [St.put] using this
theorem o_mkmap {t : TypeId} (hd : d < n) (hf : (freeHp d hp && freeTm d tm) = true) (h : Ops P f R all l k ⟨n, (d, .ref (0, d)) :: tm, (d, .mp []) :: hp, up⟩) :
    Op1 P f R all ⟨some d, .makeMap t none, ty, pos, aft, gd⟩ l k ⟨n, tm, hp, up⟩ := o_does (does_mkmap hd hf) h

/-- a map as the machine has it -/
theorem Rep.mp {s : St} {β : Nm → Value} {own : Nat → Prop} {a : Act} {w : World} (h : Rep s β own a w) {m : Nm} {es : List (Value × D)} (hb : lookF (push s.hp s.up) m = some (.mp es)) :
    ∃ (r clock : Nat) (cur : List MapEntry), β m = .map (some r) ∧ own r ∧ w.heap[r]? = some (.map cur.toArray clock) ∧ es.length = cur.length ∧
      (∀ (j : Nat) (x : Value × D) (m : MapEntry), es[j]? = some x → cur[j]? = some m → m.key = x.1 ∧ m.val.oneCell' = true ∧ DR w own x.2 m.val) ∧ (cur.map (·.born)).Pairwise (· < ·) ∧ ∀ m ∈ cur, m.born < clock := by
  have hbr := h.heap.blk m _ hb
  generalize hv : β m = v at hbr
  cases hbr with
  | mp r clock es cur ho hg hl hd hb hc => exact ⟨r, clock, cur, rfl, ho, hg, hl, hd, hb, hc⟩
theorem getD_get {q : List (α × D)} {j : Nat} {x : Value × D} (h : (q.map fun p => (g p.1, p.2))[j]? = some x) : ∃ y, q[j]? = some y ∧ x = (g y.1, y.2) := by
  rw [List.getElem?_map] at h
  cases hq : q[j]? with
  | none => rw [hq] at h; cases h
  | some y => rw [hq] at h; simp at h; exact ⟨y, rfl, h.symm⟩

/-- a value of one cell -/
def oneD : D → Bool
  | .agg _ => false
  | _ => true
theorem does_mput {s : St} {ms : Nat} {a : α} {v : D} {insert : Bool} (hm : P.underlying t = some (.map kt et)) (hkt : P.underlying kt = some kd) (hk : KeyK kd g) (hx : s.ev x = some (.ref (0, ms))) (hy : s.ev y = some (.d (.lit (g a)))) (hz : s.ev z = some (.d v)) (hok : oneD v = true)
    (hb : look s.hp ms = some (.mp (q.map fun p => (g p.1, p.2)))) :
    Does P ⟨none, if insert then .insert t x y z else .mapUpdate t x y z, ty, pos, aft, gd⟩ s (s.setB (0, ms) (.mp ((mput q a v).map fun p => (g p.1, p.2)))) := by
  intro β own ac w hr
  have hlook : lookF (push s.hp s.up) (0, ms) = some (.mp (q.map fun p => (g p.1, p.2))) := hb
  obtain ⟨r, clock, cur, hβ, ho, hg, hl, hd, hbn, hc⟩ := hr.mp hlook
  have ex := hr.ev hx
  have ey := (hr.ev hy).lit
  have ez := hr.ev hz
  generalize hzv : ac.eval z = zv at ez
  have hz1 : zv.oneCell' = true ∧ DR w own v zv := by
    cases ez with
    | d _ _ h =>
      refine ⟨?_, h⟩
      cases h with
      | lit _ h1 => exact h1
      | nil => rfl
      | slice => rfl
      | agg => simp [oneD] at hok
      | ifc => rfl
  have ex' : ac.eval x = .map (some r) := by
    generalize hxv : ac.eval x = xv at ex
    cases ex with
    | ref _ => exact hβ
  have hlt : r < w.heap.size := hr.heap.lt r ho
  have hkeys : ∀ (j : Nat) (x : α × D) (m : MapEntry), q[j]? = some x → cur[j]? = some m → m.key = g x.1 := fun j x m h1 h2 => (hd j (g x.1, x.2) m (by rw [List.getElem?_map, h1]; rfl) h2).1
  have hlen : q.length = cur.length := by simpa using hl
  -- the entries behind the call
  obtain ⟨cur', clock', hrun, hl', hd', hbn', hc'⟩ : ∃ (cur' : List MapEntry) (clock' : Nat), (Instr.mapUpdate t (.map (some r)) (g a) zv).run P w = .ok () { w with heap := w.heap.setIfInBounds r (.map cur'.toArray clock') } ∧
      (mput q a v).length = cur'.length ∧ (∀ (j : Nat) (x : α × D) (m : MapEntry), (mput q a v)[j]? = some x → cur'[j]? = some m → m.key = g x.1 ∧ m.val.oneCell' = true ∧ DR w own x.2 m.val) ∧ (cur'.map (·.born)).Pairwise (· < ·) ∧ ∀ m ∈ cur', m.born < clock' := by
    rcases findNow_q hk a q cur 0 hlen hkeys with ⟨h1, h2⟩ | ⟨j, xq, m, h1, h2, h3, h4, h5⟩
    · refine ⟨cur ++ [{ key := g a, val := zv, born := clock }], clock + 1, ?_, by rw [mput_new q a v h1]; simp [hlen], ?_, ?_, ?_⟩
      · simp [Instr.mapUpdate, run_underlying hm, Go.MapKept.run_getObj_map hg, run_checkKey hkt (hk.key a), run_findKey hkt h2, run_setObj_map _ hg, Result.andThen]
      · intro j x m hx hm
        rw [mput_new q a v h1] at hx
        by_cases hj : j < q.length
        · rw [List.getElem?_append_left hj] at hx
          rw [List.getElem?_append_left (by omega)] at hm
          exact hd j (g x.1, x.2) m (by rw [List.getElem?_map, hx]; rfl) hm
        · have hj2 := (List.getElem?_eq_some_iff.1 hx).1
          simp at hj2
          obtain rfl : j = q.length := by omega
          rw [List.getElem?_append_right (Nat.le_refl _)] at hx
          rw [List.getElem?_append_right (by omega), hlen] at hm
          simp at hx hm; subst hx; subst hm
          exact ⟨rfl, hz1.1, hz1.2⟩
      · rw [List.map_append, List.pairwise_append]
        refine ⟨hbn, by simp, fun u hu v hv => ?_⟩
        obtain ⟨m, hm, rfl⟩ := List.mem_map.1 hu
        simp at hv; subst hv
        exact hc m hm
      · intro m hm
        rcases List.mem_append.1 hm with hm | hm
        · have := hc m hm; omega
        · simp at hm; subst hm; simp
    · have hjl := (List.getElem?_eq_some_iff.1 h2).1
      have hmk : m.key = g a := by rw [hkeys j xq m h1 h2, h3]
      have hset : mput q a v = q.set j (a, v) := mput_old q a v j xq h1 h3 h4
      refine ⟨cur.set j { m with key := g a, val := zv }, clock, ?_, by rw [hset]; simp [hlen], ?_, ?_, ?_⟩
      · simp only [Nat.zero_add] at h5
        have hkk : ((cur[j]?).map (·.key)).getD (g a) = g a := by simp [h2, hmk]
        have hmod : cur.modify j (fun e => { key := g a, val := zv, born := e.born }) = cur.set j { m with key := g a, val := zv } := by
          apply List.ext_getElem?
          intro i
          rw [List.getElem?_modify, List.getElem?_set]
          by_cases hi : j = i
          · subst hi; simp [h2, hjl]; exact congrArg MapEntry.born (List.getElem?_eq_some_iff.1 h2).2
          · simp [hi]
        simp [Instr.mapUpdate, run_underlying hm, Go.MapKept.run_getObj_map hg, run_checkKey hkt (hk.key a), run_findKey hkt h5, run_setObj_map _ hg, Result.andThen, hkk, run_keyThatStays (hk.key a), hmod]
      · intro i x m' hx hm'
        rw [hset] at hx
        by_cases hi : i = j
        · subst hi
          rw [List.getElem?_set_self (by omega)] at hx
          rw [List.getElem?_set_self hjl] at hm'
          simp at hx hm'; subst hx; subst hm'
          exact ⟨rfl, hz1.1, hz1.2⟩
        · rw [List.getElem?_set_ne (Ne.symm hi)] at hx hm'
          exact hd i (g x.1, x.2) m' (by rw [List.getElem?_map, hx]; rfl) hm'
      · have : (cur.set j { m with key := g a, val := zv }).map (·.born) = cur.map (·.born) := by
          rw [List.map_set]
          apply List.ext_getElem?
          intro i
          rw [List.getElem?_set]
          by_cases hi : j = i
          · subst hi; simp [hjl]; exact congrArg MapEntry.born (List.getElem?_eq_some_iff.1 h2).2.symm
          · simp [hi]
        rw [this]; exact hbn
      · intro m' hm'
        rcases List.mem_or_eq_of_mem_set hm' with h | h
        · exact hc m' h
        · subst h; exact hc m (List.mem_of_getElem? h2)
  -- the world behind the call
  have he : Ext w own { w with heap := w.heap.setIfInBounds r (.map cur'.toArray clock') } own := by
    refine ⟨rfl, rfl, rfl, by simp, fun b hb hno => ?_, fun _ _ h => h⟩
    have : b ≠ r := fun e => hno (e ▸ ho)
    simp [Ne.symm this]
  have hbr : BR β { w with heap := w.heap.setIfInBounds r (.map cur'.toArray clock') } own (β (0, ms)) (atF (0, ms) (.mp ((mput q a v).map fun p => (g p.1, p.2)))) := by
    rw [hβ]
    refine .mp r clock' _ cur' ho (by simp [hlt]) (by simpa using hl') (fun j x m hx hm => ?_) hbn' hc'
    obtain ⟨y, hy, rfl⟩ := getD_get hx
    obtain ⟨e1, e2, e3⟩ := hd' j y m hy hm
    exact ⟨e1, e2, e3.mono he⟩
  have hheap := hr.heap.change (raw := .mp ((mput q a v).map fun p => (g p.1, p.2))) hlook rfl he (by simp) (fun g' hg' => by
    have : g' ≠ r := fun e => hg' (by rw [hβ, e]; rfl)
    simp [Ne.symm this]) hbr
  refine ⟨.skip, undef, _, β, own, ?_, .inr ⟨rfl, rfl⟩, ?_, he, rfl⟩
  · cases insert <;> simp only [execOp, ex', ey, hzv, Bool.false_eq_true, if_false, if_true] <;> simp [hrun]
  · refine ⟨?_, hr.defers, fun t q hq => ?_, ?_⟩
    · rw [(setB_raw s (0, ms) _).2.1]; exact hr.size
    · rw [(setB_raw s (0, ms) _).1] at hq; exact (hr.tm t q hq).mono he
    · rw [push_setB]; exact hheap
variable {a : α} {v : D}
theorem o_mput {ms : Nat} (hm : P.underlying t = some (.map kt et)) (hkt : P.underlying kt = some kd) (hk : KeyK kd g) (hx : St.ev ⟨n, tm, hp, up⟩ x = some (.ref (0, ms))) (hy : St.ev ⟨n, tm, hp, up⟩ y = some (.d (.lit (g a)))) (hz : St.ev ⟨n, tm, hp, up⟩ z = some (.d v)) (hok : oneD v = true)
    (hb : look hp ms = some (.mp (q.map fun p => (g p.1, p.2)))) (h : Ops P f R all l k ⟨n, tm, (ms, .mp ((mput q a v).map fun p => (g p.1, p.2))) :: hp, up⟩) :
    Op1 P f R all ⟨none, .mapUpdate t x y z, ty, pos, aft, gd⟩ l k ⟨n, tm, hp, up⟩ := o_does (does_mput (insert := false) hm hkt hk hx hy hz hok hb) h
theorem o_mins {ms : Nat} (hm : P.underlying t = some (.map kt et)) (hkt : P.underlying kt = some kd) (hk : KeyK kd g) (hx : St.ev ⟨n, tm, hp, up⟩ x = some (.ref (0, ms))) (hy : St.ev ⟨n, tm, hp, up⟩ y = some (.d (.lit (g a)))) (hz : St.ev ⟨n, tm, hp, up⟩ z = some (.d v)) (hok : oneD v = true)
    (hb : look hp ms = some (.mp (q.map fun p => (g p.1, p.2)))) (h : Ops P f R all l k ⟨n, tm, (ms, .mp ((mput q a v).map fun p => (g p.1, p.2))) :: hp, up⟩) :
    Op1 P f R all ⟨none, .insert t x y z, ty, pos, aft, gd⟩ l k ⟨n, tm, hp, up⟩ := o_does (does_mput (insert := true) hm hkt hk hx hy hz hok hb) h

theorem zero_of {t : TypeId} {z : Value} (h : (P.info? t).bind (·.zero) = some z) : ∀ w, (zeroValue t).run P w = .ok z w := by
  intro w
  cases hi : P.info? t with
  | none => rw [hi] at h; cases h
  | some i => rw [hi] at h; simp at h; simp [Go.zeroValue, typeInfo, hi, h]
/-- what is found in a map -/
theorem d_mget {ms : Nat} {z0 : Value} {y' : D} (hm : P.underlying t = some (.map kt et)) (hkt : P.underlying kt = some kd) (hk : KeyK kd g) (hz0 : ∀ w, (zeroValue et).run P w = .ok z0 w) (h1 : z0.oneCell' = true)
    (hx : St.ev ⟨n, tm, hp, up⟩ x = some (.ref (0, ms))) (hy : St.ev ⟨n, tm, hp, up⟩ y = some (.d (.lit (g a))))
    (hb : look hp ms = some (.mp (q.map fun p => (g p.1, p.2)))) (hr : (mget q a).getD (.lit z0) = y') (hd : d < n) :
    Does P ⟨some d, .lookup t x y false, ty, pos, aft, gd⟩ ⟨n, tm, hp, up⟩ ⟨n, (d, .d y') :: tm, hp, up⟩ := by
  refine does_pure rfl hd fun β own ac w hrep => ?_
  have hlook : lookF (push hp up) (0, ms) = some (.mp (q.map fun p => (g p.1, p.2))) := hb
  obtain ⟨r, clock, cur, hβ, ho, hg, hl, hdd, hbn, hc⟩ := hrep.mp hlook
  have ex := hrep.ev hx
  have ey := (hrep.ev hy).lit
  have ex' : ac.eval x = .map (some r) := by
    generalize hxv : ac.eval x = xv at ex
    cases ex with
    | ref _ => exact hβ
  have hkeys : ∀ (j : Nat) (x : α × D) (m : MapEntry), q[j]? = some x → cur[j]? = some m → m.key = g x.1 := fun j x m h1 h2 => (hdd j (g x.1, x.2) m (by rw [List.getElem?_map, h1]; rfl) h2).1
  have hlen : q.length = cur.length := by simpa using hl
  rcases findNow_q hk a q cur 0 hlen hkeys with ⟨h1', h2⟩ | ⟨j, xq, m, h1', h2, h3, h4, h5⟩
  · refine ⟨z0, ?_, ?_⟩
    · simp [execOp, ex', ey, Instr.lookup, run_underlying hm, Go.MapKept.run_getObj_map hg, run_checkKey hkt (hk.key a), run_findKey hkt h2, Result.andThen, hz0]
    · rw [mget_new q a h1'] at hr
      subst hr
      exact .d _ _ (.lit _ h1)
  · simp only [Nat.zero_add] at h5
    refine ⟨m.val, ?_, ?_⟩
    · simp [execOp, ex', ey, Instr.lookup, run_underlying hm, Go.MapKept.run_getObj_map hg, run_checkKey hkt (hk.key a), run_findKey hkt h5, Result.andThen]
    · rw [mget_old q a j xq h1' h3 h4] at hr
      subst hr
      exact .d _ _ (hdd j (g xq.1, xq.2) m (by rw [List.getElem?_map, h1']; rfl) h2).2.2
theorem d_mlen {ms : Nat} {es : List (Value × D)} (hm : P.underlying t = some (.map kt et)) (hx : St.ev ⟨n, tm, hp, up⟩ x = some (.ref (0, ms))) (hb : look hp ms = some (.mp es)) (hd : d < n) :
    Does P ⟨some d, .call ⟨.builtin .len, #[x], #[t]⟩, ty, pos, aft, gd⟩ ⟨n, tm, hp, up⟩ ⟨n, (d, I .i64 es.length) :: tm, hp, up⟩ :=
  does_pure rfl hd fun β own ac w hrep => ⟨.int .i64 es.length, by
    have hlook : lookF (push hp up) (0, ms) = some (.mp es) := hb
    obtain ⟨r, clock, cur, hβ, ho, hg, hl, hdd, hbn, hc⟩ := hrep.mp hlook
    have ex := hrep.ev hx
    have ex' : ac.eval x = .map (some r) := by
      generalize hxv : ac.eval x = xv at ex
      cases ex with
      | ref _ => exact hβ
    simp [execOp, resolve, invoke, builtin, Builtin.len_, run_underlying hm, ex', Go.MapKept.run_getObj_map hg, goInt, Result.andThen, hl], .I _ _⟩
end Go.Ab
namespace Go.Ab
set_option linter.unusedVariables false
set_option linter.unusedSimpArgs false

variable {P : Program} {f : FuncId} {R : Post} {k : List Item} {all : Array Oper} {o : Oper} {l : List Oper}
variable {n : Nat} {tm : List (Nat × PV)} {hp : Hp} {up : Hf} {d : Nat} {ty : TypeId} {pos : String} {aft : Array Edge} {gd : Option (Nat × Bool)} {op : Op} {p : PV}

theorem evs_both {s : St} : ∀ {xs ys : List (Operand × PV)}, Evs s xs → Evs s ys → Evs s (xs ++ ys)
  | [], ys, _, h => h
  | (x, p) :: r, ys, h, h' => ⟨h.1, evs_both h.2 h'⟩
theorem evE_two {s : St} {xs ys : List Operand} {ps qs : List PV} (h : s.evs xs = some ps) (h' : s.evs ys = some qs) : EvE s (xs.zip ps ++ ys.zip qs) :=
  evs_eq (evs_both (evs_list h).1 (evs_list h').1)
theorem evs_len {s : St} : ∀ {xs : List Operand} {ps : List PV}, s.evs xs = some ps → xs.length = ps.length
  | [], ps, h => by simp [St.evs] at h; subst h; rfl
  | x :: r, ps, h => by
    simp only [St.evs] at h
    cases hx : s.ev x with
    | none => rw [hx] at h; cases h
    | some p =>
      rw [hx] at h
      cases hr : s.evs r with
      | none => rw [hr] at h; cases h
      | some q => rw [hr] at h; simp at h; subst h; simp [evs_len hr]
theorem evs_app {s : St} : ∀ {xs ys : List (Operand × PV)}, Evs s (xs ++ ys) → Evs s xs ∧ Evs s ys
  | [], ys, h => ⟨trivial, h⟩
  | (x, p) :: r, ys, h => by
    have := evs_app (xs := r) h.2
    exact ⟨⟨h.1, this.1⟩, this.2⟩
theorem zip_args {β : Nm → Value} {own : Nat → Prop} {a : Act} {w : World} {s : St} (hr : Rep s β own a w) : ∀ {xs : List Operand} {ps : List PV}, xs.length = ps.length → Evs s (xs.zip ps) →
    ∀ (j : Nat) (p : PV) (v : Value), ps[j]? = some p → (xs.map a.eval)[j]? = some v → PR β w own p v
  | [], [], _, _, j, p, v, hp, _ => by simp at hp
  | [], _ :: _, h, _, _, _, _, _, _ => by simp at h
  | _ :: _, [], h, _, _, _, _, _, _ => by simp at h
  | x :: xs, q :: ps, hl, h, j, p, v, hp, hv => by
    cases j with
    | zero => simp at hp hv; subst hp; subst hv; exact hr.ev h.1
    | succ j => exact zip_args hr (by simpa using hl) h.2 j p v (by simpa using hp) (by simpa using hv)

/-- a function value is made -/
theorem v_mkfn {fn : Fn} {lf lc : List Operand} {pf pc : List PV} (h1 : lf.length = pf.length) (h2 : lc.length = pc.length) : Val P (.makeFunc fn lf.toArray lc.toArray) ty (lf.zip pf ++ lc.zip pc) [] (.fn fn pf pc) :=
  fun d pos aft gd n tm hp up hd hx hb => does_pure rfl hd fun β own a w hr => by
    obtain ⟨e1, e2⟩ := evs_app hx
    refine ⟨.func fn (lf.map a.eval).toArray (lc.map a.eval).toArray, ?_, .fn fn pf pc _ _ (by simp [h1]) (by simp [h2]) (zip_args hr h1 e1) (zip_args hr h2 e2)⟩
    simp [execOp, Instr.makeFunc]
theorem o_mkfn {fn : Fn} {lf lc : List Operand} {pf pc : List PV} (h1 : St.evs ⟨n, tm, hp, up⟩ lf = some pf) (h2 : St.evs ⟨n, tm, hp, up⟩ lc = some pc) (hd : d < n) (h : Ops P f R all l k ⟨n, (d, .fn fn pf pc) :: tm, hp, up⟩) :
    Op1 P f R all ⟨some d, .makeFunc fn lf.toArray lc.toArray, ty, pos, aft, gd⟩ l k ⟨n, tm, hp, up⟩ :=
  o_val (v_mkfn (evs_len h1) (evs_len h2)) (evE_two h1 h2) rfl hd h
theorem t_mkfn {id : Nat} {ops : List Oper} {s0 : St} {done : List Eff} {gr : List (Nat × PV)} {fn : Fn} {lf lc : List Operand} {pf pc : List PV} (hg : GOK ops.toArray gd gr ⟨n, tm, hp, up⟩) (h1 : St.evs ⟨n, tm, hp, up⟩ lf = some pf) (h2 : St.evs ⟨n, tm, hp, up⟩ lc = some pc) (hd : d < n)
    (h : Tr P f R id ops k s0 (done ++ [⟨gr ++ rd (lf.zip pf ++ lc.zip pc), [], [], [(d, .fn fn pf pc)], []⟩]) ⟨n, (d, .fn fn pf pc) :: tm, hp, up⟩ l) :
    Tr P f R id ops k s0 done ⟨n, tm, hp, up⟩ (⟨some d, .makeFunc fn lf.toArray lc.toArray, ty, pos, aft, gd⟩ :: l) :=
  t_val (v_mkfn (evs_len h1) (evs_len h2)) hg (evE_two h1 h2) rfl hd h

/-- a call of a function value that changes nothing -/
theorem o_fnv {g : FuncId} {fo : Operand} {args : List Operand} {first cap ps : List PV} {ats : Array TypeId} {bs : List (Nm × Blk)} (hsp : Eff1 P g (first ++ ps ++ cap) bs [] p) (hfo : St.ev ⟨n, tm, hp, up⟩ fo = some (.fn (.func g) first cap)) (hev : St.evs ⟨n, tm, hp, up⟩ args = some ps)
    (hb : BkE ⟨n, tm, hp, up⟩ bs) (hd : d < n) (h : Ops P f R all l k ⟨n, (d, p) :: tm, hp, up⟩) :
    Op1 P f R all ⟨some d, .call ⟨.value fo, args.toArray, ats⟩, ty, pos, aft, gd⟩ l k ⟨n, tm, hp, up⟩ :=
  o_call hfo hev (hsp (push hp up) fun q hq => bks_all (bkE hb) q hq) hd fun r H ⟨h1, h2⟩ => ⟨p, hp, up, h1, h2, h⟩
theorem t_fnv {id : Nat} {ops : List Oper} {s0 : St} {done : List Eff} {gr : List (Nat × PV)} {g : FuncId} {fo : Operand} {args : List Operand} {first cap ps : List PV} {ats : Array TypeId} {bs : List (Nm × Blk)} (hsp : Eff1 P g (first ++ ps ++ cap) bs [] p) (hg : GOK ops.toArray gd gr ⟨n, tm, hp, up⟩)
    (hfo : St.ev ⟨n, tm, hp, up⟩ fo = some (.fn (.func g) first cap)) (hev : St.evs ⟨n, tm, hp, up⟩ args = some ps) (hb : BkE ⟨n, tm, hp, up⟩ bs) (hd : d < n)
    (h : Tr P f R id ops k s0 (done ++ [⟨gr ++ rd ((fo, .fn (.func g) first cap) :: args.zip ps), bs, [], [(d, p)], []⟩]) ⟨n, (d, p) :: tm, hp, up⟩ l) :
    Tr P f R id ops k s0 done ⟨n, tm, hp, up⟩ (⟨some d, .call ⟨.value fo, args.toArray, ats⟩, ty, pos, aft, gd⟩ :: l) := by
  replace hb := bkE hb
  obtain ⟨hz1, hz2⟩ := evs_list hev
  have hz0 : Evs ⟨n, tm, hp, up⟩ ((fo, .fn (.func g) first cap) :: args.zip ps) := ⟨hfo, hz1⟩
  refine t_step (e := ⟨gr ++ rd ((fo, .fn (.func g) first cap) :: args.zip ps), bs, [], [(d, p)], []⟩) (fun i hi s1 hn hs1 => ?_) ⟨fun q hq => ?_, bks_all hb, by simp⟩ rfl h
  · have h1 : Evs s1 ((fo, .fn (.func g) first cap) :: args.zip ps) := evs_any hz0 fun q hq => hs1.ins q (by simp [hq])
    have hev1 : s1.evs args = some ps := hz2 s1 h1.2
    refine stepI_call hi (fun β own a w hr => hg.wanted (fun q hq => hs1.ins q (by simp [hq])) rfl hr) h1.1 hev1 ?_ (by rw [hn]; exact hd)
    simpa using hsp (push s1.hp s1.up) fun q hq => hs1.pre q hq
  · simp only [List.mem_append] at hq
    rcases hq with hq | hq
    · exact hg.agrees q hq
    · exact rd_agrees hz0 q hq
/-- a call of a named function that reads some blocks and changes nothing -/
theorem o_effk {g : FuncId} {args : List Operand} {ps : List PV} {ats : Array TypeId} {bs : List (Nm × Blk)} (hsp : Eff1 P g ps bs [] p) (hev : St.evs ⟨n, tm, hp, up⟩ args = some ps)
    (hb : BkE ⟨n, tm, hp, up⟩ bs) (hd : d < n) (h : Ops P f R all l k ⟨n, (d, p) :: tm, hp, up⟩) :
    Op1 P f R all ⟨some d, .call ⟨.value (.func g), args.toArray, ats⟩, ty, pos, aft, gd⟩ l k ⟨n, tm, hp, up⟩ :=
  o_fnv (first := []) (cap := []) (by simpa using hsp) rfl hev hb hd h
end Go.Ab
namespace Go.Ab
set_option linter.unusedVariables false
set_option linter.unusedSimpArgs false

variable {P : Program} {f : FuncId} {R : Post} {k : List Item} {all : Array Oper} {o : Oper} {l : List Oper}
variable {n : Nat} {tm : List (Nat × PV)} {hp : Hp} {up : Hf} {d : Nat} {ty : TypeId} {pos : String} {aft : Array Edge} {gd : Option (Nat × Bool)} {op : Op} {p : PV}

/-- the value of a named function -/
abbrev fnD (g : FuncId) : D := .lit (.func (.func g) #[] #[])

/-- a function value without captured values is data -/
def asF : PV → PV
  | .fn g [] [] => .d (.lit (.func g #[] #[]))
  | p => p
theorem asF_rel {β : Nm → Value} {w : World} {own : Nat → Prop} {p : PV} {v : Value} (h : PR β w own p v) : PR β w own (asF p) v := by
  unfold asF
  split
  · cases h with
    | fn _ _ _ fv cv hl hl' hd hd' =>
      have e1 : fv = [] := by simpa using hl.symm
      have e2 : cv = [] := by simpa using hl'.symm
      subst e1; subst e2
      exact .d _ _ (.lit _ rfl)
  · exact h

theorem run_fnl {s : St} {β : Nm → Value} {own : Nat → Prop} {a : Act} {w : World} (hr : Rep s β own a w) {g : FuncId} {fo : Operand} {args : List Operand} {ps : List PV} {ats : Array TypeId} (hfo : s.ev fo = some (.d (fnD g))) (hev : s.evs args = some ps) (hp : Plain P g)
    {dst : Option Tmp} : ∃ vals : List Value, (execOp a.eval ⟨dst, .call ⟨.value fo, args.toArray, ats⟩, ty, pos, aft, gd⟩).run P w = .ok (.enter g vals.toArray) w ∧ ArgsR β w own ps vals := by
  obtain ⟨fn, hfn, hname, hbody⟩ := hp
  have h := hr.ev hfo
  have hv : a.eval fo = .func (.func g) #[] #[] := h.lit
  refine ⟨args.map a.eval, ?_, hr.evs hev⟩
  have hb : ∃ c, fn.body = some c := by cases hc : fn.body with | none => rw [hc] at hbody; cases hbody | some c => exact ⟨c, rfl⟩
  obtain ⟨c, hb⟩ := hb
  have hname' : ¬ (fn.name = "runtime.NumGoroutine") := by simpa using hname
  simp [execOp, resolve, hv, Deferred.ofValue, invoke, callFunc, hfn, hname', hb]

theorem o_fnl {g : FuncId} {fo : Operand} {args : List Operand} {ps : List PV} {ats : Array TypeId} (hfo : St.ev ⟨n, tm, hp, up⟩ fo = some (.d (fnD g))) (hsp : PureF P g ps p) (hev : St.evs ⟨n, tm, hp, up⟩ args = some ps) (hd : d < n)
    (h : Ops P f R all l k ⟨n, (d, p) :: tm, hp, up⟩) : Op1 P f R all ⟨some d, .call ⟨.value fo, args.toArray, ats⟩, ty, pos, aft, gd⟩ l k ⟨n, tm, hp, up⟩ := by
  have hsp := hsp (push hp up)
  refine o_enter (g := g) fun β own a w hr => ?_
  obtain ⟨vals, hrun, hargs⟩ := run_fnl hr hfo hev hsp.plain (dst := some d) (ats := ats) (ty := ty) (pos := pos) (aft := aft) (gd := gd)
  refine ⟨vals.toArray, w, own, hrun, Ext.refl _ _, (hsp.run β own w vals hr.heap hargs).mono fun e w' hfin => ?_⟩
  obtain ⟨v, r, H, own', he, ⟨rfl, rfl⟩, hrv, hheap, hext⟩ := hfin
  cases hrv with
  | v _ _ hpv =>
    refine ⟨v, β, own', _, he, ?_, hext, rfl, h⟩
    have hr' : Rep ⟨n, tm, hp, up⟩ β own' a w' := ⟨hr.size, hr.defers, fun t q hq => (hr.tm t q hq).mono hext, hheap⟩
    exact hr'.put (dst := some d) (by simp [St.fits, hd]) hpv

theorem stepI_fnl {i : Nat} {s : St} {g : FuncId} {fo : Operand} {args : List Operand} {ps : List PV} {ats : Array TypeId} (ho : all[i]? = some ⟨some d, .call ⟨.value fo, args.toArray, ats⟩, ty, pos, aft, gd⟩)
    (hw : ∀ β own a w, Rep s β own a w → Region.wanted ⟨some d, .call ⟨.value fo, args.toArray, ats⟩, ty, pos, aft, gd⟩ (yielded all a.tmps) = true)
    (hfo : s.ev fo = some (.d (fnD g))) (hev : s.evs args = some ps) (hsp : PureF P g ps p) (hd : d < s.n) :
    StepI P f R all k i s (s.app ⟨[], [], [], [(d, p)], []⟩) := by
  intro is h β own a w hrep b hb hk hn cs
  have hsp := hsp (push s.hp s.up)
  obtain ⟨vals, hrun, hargs⟩ := run_fnl hrep hfo hev hsp.plain (dst := some d) (ats := ats) (ty := ty) (pos := pos) (aft := aft) (gd := gd)
  obtain ⟨e, w', fr, ⟨v, r, H, own', rfl, ⟨rfl, rfl⟩, hrv, hheap, hext⟩, hsteps, _, hleave⟩ := hsp.run β own w vals hrep.heap hargs (am b a (.inRegion all (i :: is) :: k) :: cs)
  cases hrv with
  | v _ _ hpv =>
    have hr' : Rep s β own' a w' := ⟨hrep.size, hrep.defers, fun t q hq => (hrep.tm t q hq).mono hext, hheap⟩
    have hr2 := hr'.put (dst := some d) (p := p) (v := v) (by simp [St.fits, hd]) hpv
    exact ((h β own' _ w' hr2 b hb hk hn cs).ext hext).of_steps (am_call ho (hw β own a w hrep) hrun hsteps hleave)

theorem t_fnl {id : Nat} {ops : List Oper} {s0 : St} {done : List Eff} {gr : List (Nat × PV)} {g : FuncId} {fo : Operand} {args : List Operand} {ps : List PV} {ats : Array TypeId} (hg : GOK ops.toArray gd gr ⟨n, tm, hp, up⟩)
    (hfo : St.ev ⟨n, tm, hp, up⟩ fo = some (.d (fnD g))) (hsp : PureF P g ps p) (hev : St.evs ⟨n, tm, hp, up⟩ args = some ps) (hd : d < n)
    (h : Tr P f R id ops k s0 (done ++ [⟨gr ++ rd ((fo, .d (fnD g)) :: args.zip ps), [], [], [(d, p)], []⟩]) ⟨n, (d, p) :: tm, hp, up⟩ l) :
    Tr P f R id ops k s0 done ⟨n, tm, hp, up⟩ (⟨some d, .call ⟨.value fo, args.toArray, ats⟩, ty, pos, aft, gd⟩ :: l) := by
  obtain ⟨hz1, hz2⟩ := evs_list hev
  have hz0 : Evs ⟨n, tm, hp, up⟩ ((fo, .d (fnD g)) :: args.zip ps) := ⟨hfo, hz1⟩
  refine t_step (e := ⟨gr ++ rd ((fo, .d (fnD g)) :: args.zip ps), [], [], [(d, p)], []⟩) (fun i hi s1 hn hs1 => ?_) ⟨fun q hq => ?_, by simp, by simp⟩ rfl h
  · have h1 : Evs s1 ((fo, .d (fnD g)) :: args.zip ps) := evs_any hz0 fun q hq => hs1.ins q (by simp [hq])
    exact stepI_fnl hi (fun β own a w hr => hg.wanted (fun q hq => hs1.ins q (by simp [hq])) rfl hr) h1.1 (hz2 s1 h1.2) hsp (by rw [hn]; exact hd)
  · simp only [List.mem_append] at hq
    rcases hq with hq | hq
    · exact hg.agrees q hq
    · exact rd_agrees hz0 q hq

theorem d_lit_fns {t e : TypeId} {ti te : TI} [ht : HasT P t ti] [he : HasT P e te] {len : Nat} {l : List (Nat × Operand)} {qs : List (Nat × List PV)} {cs : List PV} {ds : List D} {xs : List (List D)} (hq : St.parts ⟨n, tm, hp, up⟩ l = some qs) (hok : St.okParts ⟨n, tm, hp, up⟩ l = true)
    (hf : fillP (fun i => some (i * te.size, te.size)) (zerosP te.zero (len * te.size)) qs = some cs) (hm : allD (cs.map asF) = some ds) (hxs : chunk te.size len ds = xs) (hk : ti.kind = .slice e)
    (hz : litOK te len = true) (hd : d < n) :
    Does P ⟨some d, .buildSlice t len l.toArray, ty, pos, aft, gd⟩ ⟨n, tm, hp, up⟩ ⟨n, (d, .d (.slice xs)) :: tm, hp, up⟩ :=
  does_val rfl hd fun β own a w hr => by
    simp only [litOK, Bool.and_eq_true, beq_iff_eq, bne_iff_ne, decide_eq_true_eq] at hz
    obtain ⟨⟨⟨z1, z2⟩, z3⟩, z4⟩ := hz
    obtain ⟨h1, h2⟩ := hr.parts l qs hq hok
    have hl : (l.toArray.map fun x => (x.1, a.eval x.2)).toList = l.map fun x => (x.1, a.eval x.2) := by simp
    obtain ⟨vs, hrun, hcr, hvl⟩ := run_buildSliceP (P := P) ht he hk z1 z2 z3 z4 (β := β) (w := w) (own := own) (l.toArray.map fun x => (x.1, a.eval x.2)) qs (by rw [hl]; exact h1) (by rw [hl]; exact h2) hf
    have hcr' : CR β w own (cs.map asF) vs := ⟨by simpa using hcr.1, hcr.2.1, fun j x v hx hv => by
      rw [List.getElem?_map] at hx
      cases hc : cs[j]? with
      | none => rw [hc] at hx; cases hx
      | some c => rw [hc] at hx; simp at hx; subst hx; exact asF_rel (hcr.2.2 j c v hc hv)⟩
    replace hcr := allD_rel hcr' hm
    subst hxs
    refine ⟨_, _, ?_, (RowKit.Below.refl _ _).alloc (Nat.le_refl _) _, .d _ _ (chunk_DR hr.heap.lt hcr hvl e)⟩
    simp only [execOp]
    have : (Array.map (fun x : Nat × Operand => match x with | (i, x) => (i, a.eval x)) l.toArray) = l.toArray.map fun x => (x.1, a.eval x.2) := rfl
    rw [this, Sem.run_bind, hrun]
    rfl
theorem o_litf {t e : TypeId} {ti te : TI} {lp : List (Nat × Operand)} {ps : List PV} {qs : List (Nat × List PV)} {cs : List PV} {len : Nat} {ds : List D} {ys : List (List D)} [ht : HasT P t ti] [he : HasT P e te] (hk : ti.kind = .slice e) (hev : St.evs ⟨n, tm, hp, up⟩ (lp.map (·.2)) = some ps) (hq : partCells lp ps = some qs) (hn : noRefs ps = true) (hf : fillP (fun i => some (i * te.size, te.size)) (zerosP te.zero (len * te.size)) qs = some cs)
    (hm : allD (cs.map asF) = some ds) (hxs : chunk te.size len ds = ys) (hz : litOK te len = true) (hd : d < n) (h : Ops P f R all l k ⟨n, (d, .d (.slice ys)) :: tm, hp, up⟩) :
    Op1 P f R all ⟨some d, .buildSlice t len lp.toArray, ty, pos, aft, gd⟩ l k ⟨n, tm, hp, up⟩ :=
  let ⟨h1, h2⟩ := parts_of (evE (partEvs_of hev)) hq hn
  o_does (d_lit_fns h1 h2 hf hm hxs hk hz hd) h
end Go.Ab
namespace Go.Ab
set_option linter.unusedVariables false
set_option linter.unusedSimpArgs false
variable {P : Program} {f : FuncId} {R : Post} {k : List Item} {all : Array Oper} {o : Oper} {l : List Oper}
variable {n : Nat} {tm : List (Nat × PV)} {hp : Hp} {up : Hf} {d : Nat} {ty : TypeId} {pos : String} {aft : Array Edge} {gd : Option (Nat × Bool)} {op : Op} {p : PV}
def PV.taker (m : Nm) (y : Nat) : PV → PV
  | .ref q => if q == m then .ref (0, y) else .ref q
  | p => p
def takerTm (m : Nm) (y : Nat) : List (Nat × PV) → List (Nat × PV)
  | [] => []
  | (t, p) :: r => (t, p.taker m y) :: takerTm m y r
theorem look_takerTm {m : Nm} {y : Nat} : ∀ {tm : List (Nat × PV)} {t : Nat}, look (takerTm m y tm) t = (look tm t).map (PV.taker m y)
  | [], t => rfl
  | (k, p) :: r, t => by
    simp only [takerTm, look]
    split
    · rfl
    · exact look_takerTm
theorem r_taker (y md ms : Nat) {raw : Blk} (hb : up md ms = some raw) (hl : raw.live = true) (hfr : (freeHp y hp && freeTm y tm) = true)
    (h : Run P f R k ⟨n, (100000 + y, .al (0, y) (md + 1, ms)) :: takerTm (md + 1, ms) y tm, (y, raw.lift (md + 1)) :: hp, upd up (md, ms) .gone⟩) : Run P f R k ⟨n, tm, hp, up⟩ := by
  refine Run.step (fun β own a w hr b cs => ⟨setβ β y (β (md + 1, ms)), own, a, w, ?_, Ext.refl _ _, outn_setβ _ _ _, .refl _ _⟩) h
  have hne : ((md + 1, ms) : Nm) ≠ (0, y) := by simp
  simp only [Bool.and_eq_true] at hfr
  have hlook : lookF (push hp up) (md + 1, ms) = some (raw.lift (md + 1)) := by simp [lookF, push, hb]
  have hl' : (raw.lift (md + 1)).live = true := by rw [Blk.lift_live]; exact hl
  have hr0 : HR (push hp (upd up (md, ms) .gone)) β own w := by rw [push_upd]; exact hr.heap.drop (md + 1, ms)
  have key : ∀ m c, lookF (push hp (upd up (md, ms) .gone)) m = some c → c.live = true → m ≠ (md + 1, ms) ∧ lookF (push hp up) m = some c := by
    intro m c hm hc
    rw [push_upd, lookF_upd] at hm
    by_cases e : m = (md + 1, ms)
    · rw [if_pos e] at hm; simp [atF, Blk.lift] at hm; subst hm; cases hc
    · rw [if_neg e] at hm; exact ⟨e, hm⟩
  refine ⟨hr.size, hr.defers, fun t p hp' => ?_, ?_⟩
  · simp only [look] at hp'
    split at hp'
    · simp at hp'; subst hp'
      exact .al _ _ (by rw [setβ_same, setβ_ne _ _ _ _ hne]) _
    · rw [look_takerTm] at hp'
      cases hq : look tm t with
      | none => rw [hq] at hp'; cases hp'
      | some q =>
        rw [hq] at hp'; simp at hp'; subst hp'
        have h1 := hr.tm t q hq
        have h2 := h1.reβ (β' := setβ β y (β (md + 1, ms))) (0, y) (setβ_ne β y _) (freeTm_get hfr.2 hq)
        generalize a.tmps.getD t undef = v at h1 h2
        cases q with
        | ref q =>
          simp only [PV.taker]
          split
          · rename_i e; simp at e; subst e
            cases h1 with | ref _ => have := PR.ref (β := setβ β y (β (md + 1, ms))) (w := w) (own := own) (0, y); rw [setβ_same] at this; exact this
          · exact h2
        | _ => exact h2
  · have hbr := hr.heap.blk (md + 1, ms) _ hlook
    refine HR.install (d := y) hr0 hfr.1 (Ext.refl w own) hr.heap.lt (v := β (md + 1, ms)) (b := raw.lift (md + 1)) (fun m c hm hc hmy g hg => ?_) (hbr.reβ (0, y) (setβ_ne β y _) (Blk.lift_says _ _ _))
    obtain ⟨h1, h2⟩ := key m c hm hc
    exact ⟨rfl, (hr.heap.blk m c h2).block_lt hc hg, fun _ => hr.heap.inj m (md + 1, ms) c _ h2 hlook hc hl' h1 g hg⟩
theorem upd_ne {H : Hf} {m : Nm} {b c : Blk} {d s : Nat} (h : H d s = some c) (hne : ¬ (d = m.1 ∧ s = m.2)) : upd H m b d s = some c := by
  simp only [upd]; rw [if_neg hne]; exact h
theorem get_of_eq {α : Type} {q A B : List α} {v : α} {i : Nat} (h : q = A ++ v :: B) (hi : i = A.length) : q[i]? = some v := by
  subst h; subst hi; simp
theorem set_of_eq {α : Type} {q A B : List α} {v w : α} {i : Nat} (h : q = A ++ v :: B) (hi : i = A.length) : q.set i w = A ++ w :: B := by
  subst h; subst hi; simp
theorem splice_all {α : Type} : ∀ (cs ps : List α), ps.length = cs.length → splice cs 0 ps = ps
  | [], [], _ => rfl
  | [], _ :: _, h => by simp at h
  | _ :: _, [], h => by simp at h
  | c :: cs, p :: ps, h => by rw [splice, splice_all cs ps (by simpa using h)]
/-- a caller's block given back, and what is then known of the callers' blocks -/
theorem updL_one (H : Hf) (m : Nm) (b : Blk) : updL H [(m, b)] = upd H m b := rfl
end Go.Ab
namespace Go.Ab
set_option linter.unusedVariables false
set_option linter.unusedSimpArgs false
variable {P : Program} {ty tx ty' : TypeId} {x y z : Operand} {k k2 : IntKind} {a b : Int}
/-- a shift to the left by a number of bits -/
def shlV (k : IntKind) (a b : Int) : Int := k.wrap (a * 2 ^ (min b.toNat k.bits))
def shrV (k : IntKind) (a b : Int) : Int := a.fdiv (2 ^ (min b.toNat k.bits))
def andV (k : IntKind) (a b : Int) : Int := k.wrap ((BitVec.ofInt k.bits a &&& BitVec.ofInt k.bits b).toNat : Int)
def orV (k : IntKind) (a b : Int) : Int := k.wrap ((BitVec.ofInt k.bits a ||| BitVec.ofInt k.bits b).toNat : Int)
def xorV (k : IntKind) (a b : Int) : Int := k.wrap ((BitVec.ofInt k.bits a ^^^ BitVec.ofInt k.bits b).toNat : Int)
theorem v_shl (h0 : 0 ≤ b) : Val P (.binOp .shl tx x y ty') ty [(x, I k a), (y, I k2 b)] [] (I k (shlV k a b)) := fun d pos aft gd n tm hp up hd hx _ =>
  d_bin hx.1 hx.2.1 hd rfl fun w => by
    have h : ¬ b < 0 := by omega
    simp [eqGuard, binOp, Op.shift, h, shlV]
theorem v_shr (h0 : 0 ≤ b) : Val P (.binOp .shr tx x y ty') ty [(x, I k a), (y, I k2 b)] [] (I k (shrV k a b)) := fun d pos aft gd n tm hp up hd hx _ =>
  d_bin hx.1 hx.2.1 hd rfl fun w => by
    have h : ¬ b < 0 := by omega
    simp [eqGuard, binOp, Op.shift, h, shrV]
theorem v_band : Val P (.binOp .and tx x y ty') ty [(x, I k a), (y, I k b)] [] (I k (andV k a b)) := fun d pos aft gd n tm hp up hd hx _ =>
  d_bin hx.1 hx.2.1 hd rfl fun w => by simp [eqGuard, binOp, Op.intBits, andV]
theorem v_bor : Val P (.binOp .or tx x y ty') ty [(x, I k a), (y, I k b)] [] (I k (orV k a b)) := fun d pos aft gd n tm hp up hd hx _ =>
  d_bin hx.1 hx.2.1 hd rfl fun w => by simp [eqGuard, binOp, Op.intBits, orV]
theorem v_bxor : Val P (.binOp .xor tx x y ty') ty [(x, I k a), (y, I k b)] [] (I k (xorV k a b)) := fun d pos aft gd n tm hp up hd hx _ =>
  d_bin hx.1 hx.2.1 hd rfl fun w => by simp [eqGuard, binOp, Op.intBits, xorV]
theorem shrV_eq (h0 : 0 ≤ a) (h1 : b.toNat ≤ k.bits) : shrV k a b = a / 2 ^ b.toNat := by
  rw [shrV, Nat.min_eq_left h1, Int.fdiv_eq_ediv_of_nonneg _ (Int.pow_nonneg (by omega))]
/-- the middle of two places -/
theorem mid_shr (a : Int) (h0 : 0 ≤ a) : shrV .u64 a 1 = a / 2 := by
  rw [shrV_eq h0 (by decide)]; rfl
theorem wu64 {x : Int} (h1 : 0 ≤ x) (h2 : x < 18446744073709551616) : IntKind.u64.wrap x = x := by
  simp only [IntKind.wrap, IntKind.bits, IntKind.signed]
  simp
  omega
/-- a row of one's own given back to the caller -/
theorem r_giver {P : Program} {f : FuncId} {R : Post} {k : List Item} {n : Nat} {tm : List (Nat × PV)} {hp : Hp} {up : Hf} (y md ms : Nat) {e kk : Nat} {xs : List (List D)} (hal : look tm (100000 + y) = some (.al (0, y) (md + 1, ms))) (hb : look hp y = some (.row e kk xs)) (hg : up md ms = some .gone)
    (h : Run P f R k ⟨n, tm, (y, .gone) :: hp, upd up (md, ms) (.row e kk xs)⟩) : Run P f R k ⟨n, tm, hp, up⟩ :=
  r_give y md ms hal hb hg rfl rfl h
/-- a contract on a row, the row said in other words -/
theorem eff_row {P : Program} {g : FuncId} {ps : List PV} {m : Nm} {e kk : Nat} {α : Type} {gg : α → List D} {q0 q0' q q' : List α} {bs : List (Nm × Blk)} {p : PV} (h : Eff1 P g ps ((m, .row e kk (q0.map gg)) :: bs) [(m, .row e kk (q0'.map gg))] p) (h1 : q0 = q) (h2 : q0' = q') :
    Eff1 P g ps ((m, .row e kk (q.map gg)) :: bs) [(m, .row e kk (q'.map gg))] p := by subst h1; subst h2; exact h
theorem r_via {P : Program} {f : FuncId} {R : Post} {k k' : List Item} {s : St} {σ : Type} {I : σ → St} {D : σ → Prop} (main : (∀ q, D q → Run P f R k' (I q)) → Run P f R k s) (fin : ∀ q, D q → Run P f R k' (I q)) : Run P f R k s := main fin
/-- a call that changes one block of one's own and reads others -/
theorem o_effr {P : Program} {f : FuncId} {R : Post} {k : List Item} {all : Array Oper} {l : List Oper} {n : Nat} {tm : List (Nat × PV)} {hp : Hp} {up : Hf} {d : Nat} {ty : TypeId} {pos : String} {aft : Array Edge} {gd : Option (Nat × Bool)} {p : PV}
    {g : FuncId} {args : List Operand} {ps : List PV} {ats : Array TypeId} {ms : Nat} {b b' : Blk} {bs : List (Nm × Blk)} (hsp : Eff1 P g ps (((0, ms), b) :: bs) [((0, ms), b')] p) (hev : St.evs ⟨n, tm, hp, up⟩ args = some ps) (hb : look hp ms = some b) (hbs : BkE ⟨n, tm, hp, up⟩ bs) (hd : d < n)
    (h : Ops P f R all l k ⟨n, (d, p) :: tm, (ms, b') :: hp, up⟩) : Op1 P f R all ⟨some d, .call ⟨.value (.func g), args.toArray, ats⟩, ty, pos, aft, gd⟩ l k ⟨n, tm, hp, up⟩ :=
  o_eff hsp hev (by simp only [BkE, List.map_cons, List.cons.injEq]; exact ⟨hb, hbs⟩) hd rfl h
/-- a shift by one to the right of a number that is not negative -/
theorem v_half (h0 : 0 ≤ a) : Val P (.binOp .shr tx x y ty') ty [(x, I .u64 a), (y, I k2 1)] [] (I .u64 (a / 2)) := by
  have := v_shr (P := P) (ty := ty) (tx := tx) (ty' := ty') (x := x) (y := y) (k := .u64) (k2 := k2) (a := a) (b := 1) (by omega)
  rwa [mid_shr a h0] at this
end Go.Ab
namespace Go.Ab
set_option linter.unusedVariables false
set_option linter.unusedSimpArgs false
variable {P : Program} {ty tx ty' : TypeId} {x y z : Operand} {k k2 : IntKind} {a b : Int}
theorem v_eqnil {e : TypeId} {ti : TI} [ht : HasT P tx ti] {xs : List (List D)} (hk : ti.kind = .slice e) (hne : xs ≠ []) : Val P (.binOp .eql tx x y ty') ty [(x, .d (.slice xs)), (y, .d (.lit nilS))] [] (B false) := fun d pos aft gd n tm hp up hd hx _ =>
  does_pure rfl hd fun β own ac w hrp => by
    have h1 := hrp.ev hx.1
    have h2 := (hrp.ev hx.2.1).lit
    generalize hv : ac.eval x = v at h1
    cases h1 with
    | d _ _ h1 =>
      cases h1 with
      | nil a cap => exact absurd rfl hne
      | slice _ g o cap k c =>
        refine ⟨.bool false, ?_, PR.B _⟩
        simp only [execOp, h2, hv]
        rw [Sem.run_bind]
        have : (eqGuard .eql tx x y (.slice (some ⟨g, o, none⟩) xs.length cap) nilS).run P w = .ok () w := by simp [eqGuard, nilS]
        have key : (binOp .eql tx (.slice (some ⟨g, o, none⟩) xs.length cap) nilS).run P w = _ := Lib.run_eql_slice_nil w tx e (some ⟨g, o, none⟩) xs.length cap 0 0 (ht.slice hk)
        simp only [Sem.run_bind, this]
        show (Sem.run P (binOp .eql tx (.slice (some ⟨g, o, none⟩) xs.length cap) nilS) w).andThen _ = _
        rw [key]; rfl
theorem v_nenil {e : TypeId} {ti : TI} [ht : HasT P tx ti] {xs : List (List D)} (hk : ti.kind = .slice e) (hne : xs ≠ []) : Val P (.binOp .neq tx x y ty') ty [(x, .d (.slice xs)), (y, .d (.lit nilS))] [] (B true) := fun d pos aft gd n tm hp up hd hx _ =>
  does_pure rfl hd fun β own ac w hrp => by
    have h1 := hrp.ev hx.1
    have h2 := (hrp.ev hx.2.1).lit
    generalize hv : ac.eval x = v at h1
    cases h1 with
    | d _ _ h1 =>
      cases h1 with
      | nil a cap => exact absurd rfl hne
      | slice _ g o cap k c =>
        refine ⟨.bool true, ?_, PR.B _⟩
        simp only [execOp, h2, hv]
        rw [Sem.run_bind]
        have : (eqGuard .neq tx x y (.slice (some ⟨g, o, none⟩) xs.length cap) nilS).run P w = .ok () w := by simp [eqGuard, nilS]
        have key : (binOp .neq tx (.slice (some ⟨g, o, none⟩) xs.length cap) nilS).run P w = _ := run_neq_slice_nil_any w tx e (some ⟨g, o, none⟩) xs.length cap 0 0 (ht.slice hk)
        simp only [Sem.run_bind, this]
        show (Sem.run P (binOp .neq tx (.slice (some ⟨g, o, none⟩) xs.length cap) nilS) w).andThen _ = _
        rw [key]; rfl
theorem v_nilnil {e : TypeId} {ti : TI} [ht : HasT P tx ti] (hk : ti.kind = .slice e) : Val P (.binOp .eql tx x y ty') ty [(x, .d (.lit nilS)), (y, .d (.lit nilS))] [] (B true) := fun d pos aft gd n tm hp up hd hx _ =>
  d_bin hx.1 hx.2.1 hd rfl fun w => by
    have : (eqGuard .eql tx x y nilS nilS).run P w = .ok () w := by simp [eqGuard, nilS]
    have key : (binOp .eql tx nilS nilS).run P w = _ := Lib.run_eql_slice_nil w tx e none 0 0 0 0 (ht.slice hk)
    simp only [Sem.run_bind, this]
    show Sem.run P (binOp .eql tx nilS nilS) w = _
    rw [key]; rfl
end Go.Ab
namespace Go.Ab
set_option linter.unusedVariables false
set_option linter.unusedSimpArgs false
variable {P : Program} {f : FuncId} {R : Post} {k : List Item} {all : Array Oper} {o : Oper} {l : List Oper}
variable {n : Nat} {tm : List (Nat × PV)} {hp : Hp} {up : Hf} {d : Nat} {ty : TypeId} {pos : String} {aft : Array Edge} {gd : Option (Nat × Bool)} {op : Op} {p : PV}
def refOK (bs : List (Nm × Blk)) : List PV → Bool
  | [] => true
  | .ref m :: r => (bs.any fun q => q.1 == m && q.2.live) && refOK bs r
  | _ :: r => refOK bs r
theorem atF_live (m : Nm) (b : Blk) : (atF m b).live = b.live := by
  unfold atF; split
  · rfl
  · rw [Blk.lift_live]
theorem refOK_cons {bs : List (Nm × Blk)} {p : PV} {ps : List PV} {s : St} (hb : Bks s bs) (h : refOK bs (p :: ps) = true) : okRef s p = true ∧ refOK bs ps = true := by
  cases p with
  | ref m =>
    simp only [refOK, Bool.and_eq_true, List.any_eq_true] at h
    obtain ⟨⟨q, hq, h1⟩, h2⟩ := h
    simp only [Bool.and_eq_true, beq_iff_eq] at h1
    obtain ⟨rfl, hl⟩ := h1
    have := lookF_raw (bks_all hb q hq)
    exact ⟨by simp only [okRef, this, atF_live]; exact hl, h2⟩
  | _ => exact ⟨rfl, h⟩
theorem parts_ofr {s : St} {bs : List (Nm × Blk)} (hb : Bks s bs) : ∀ {l : List (Nat × Operand)} {ps : List PV} {qs : List (Nat × List PV)}, Evs s (partEvs l ps) → partCells l ps = some qs → refOK bs ps = true → s.parts l = some qs ∧ s.okParts l = true
  | [], [], qs, _, h, _ => by simp [partCells] at h; subst h; exact ⟨rfl, rfl⟩
  | [], p :: ps, qs, _, h, _ => by simp [partCells] at h
  | (i, x) :: r, [], qs, _, h, _ => by simp [partCells] at h
  | (i, x) :: r, p :: ps, qs, he, h, hn => by
    simp only [partCells] at h
    simp only [partEvs, Evs] at he
    have hn' := refOK_cons hb hn
    cases hc : cellsOf p with
    | none => rw [hc] at h; cases h
    | some cs =>
      simp only [hc] at h
      cases hq : partCells r ps with
      | none => rw [hq] at h; cases h
      | some q =>
        rw [hq] at h
        simp at h; subst h
        obtain ⟨h1, h2⟩ := parts_ofr hb he.2 hq hn'.2
        exact ⟨by simp [St.parts, he.1, hc, h1], by simp [St.okParts, he.1, hn'.1, h2]⟩
theorem v_buildr {t : TypeId} {ti : TI} {lp : List (Nat × Operand)} {ps : List PV} {qs : List (Nat × List PV)} {cs : List PV} {bs : List (Nm × Blk)} [ht : HasT P t ti] (hq : partCells lp ps = some qs) (hn : refOK bs ps = true) (hf : fillP (fun i => ti.fields[i]?) (zeroP ti.zero) qs = some cs) (hm : mk cs = p) (hk : ti.kind = .struct)
    (hz : (ti.zero.all (·.oneCell') && ti.fields.all (fun q => q.2 != 0)) = true) : Val P (.build t lp.toArray) ty (partEvs lp ps) bs p :=
  fun d pos aft gd n tm hp up hd hx hb => let ⟨h1, h2⟩ := parts_ofr hb hx hq hn; d_build h1 h2 hf hm hk hz hd
/-- ms: the own row that a part names -/
theorem t_buildr {t : TypeId} {ti : TI} {lp : List (Nat × Operand)} {ps : List PV} {qs : List (Nat × List PV)} {cs : List PV} {id : Nat} {ops : List Oper} {s0 : St} {done : List Eff} {gr : List (Nat × PV)} [ht : HasT P t ti] (ms : Nat) {b : Blk} (hg : GOK ops.toArray gd gr ⟨n, tm, hp, up⟩) (hk : ti.kind = .struct)
    (hev : St.evs ⟨n, tm, hp, up⟩ (lp.map (·.2)) = some ps) (hb : look hp ms = some b) (hq : partCells lp ps = some qs) (hn : refOK [((0, ms), b)] ps = true) (hf : fillP (fun i => ti.fields[i]?) (zeroP ti.zero) qs = some cs) (hm : mk cs = p) (hz : buildOK ti = true) (hd : d < n)
    (h : Tr P f R id ops k s0 (done ++ [⟨gr ++ rd (partEvs lp ps), [((0, ms), b)], [], [(d, p)], []⟩]) ⟨n, (d, p) :: tm, hp, up⟩ l) : Tr P f R id ops k s0 done ⟨n, tm, hp, up⟩ (⟨some d, .build t lp.toArray, ty, pos, aft, gd⟩ :: l) :=
  t_val (v_buildr hq hn hf hm hk hz) hg (partEvs_of hev) (by simp only [BkE, List.map_cons, List.map_nil]; exact congrArg (· :: []) hb) hd h
end Go.Ab
namespace Go.Ab
set_option linter.unusedVariables false
set_option linter.unusedSimpArgs false
section
variable {ops : List Oper} {es : List Eff} {s : St} {P : Program} {f : FuncId} {R : Post} {k : List Item}
theorem lin_take {L : List Nat} {m : Nat} (h : Lin ops L) (hm : ∀ i ∈ L, i < m) : Lin (ops.take m) L := by
  induction h with
  | nil => exact .nil
  | snoc L i o h hn ho hr ih =>
    exact .snoc L i o (ih fun j hj => hm j (by simp [hj])) hn (by rw [List.getElem?_take, if_pos (hm i (by simp))]; exact ho) hr
theorem lin_nodup {L : List Nat} (h : Lin ops L) : L.Nodup := by
  induction h with
  | nil => simp
  | snoc L i o h hn ho hr ih => rw [List.nodup_append]; exact ⟨ih, by simp, fun a ha b hb => by simp at hb; subst hb; exact fun e => hn (e ▸ ha)⟩
def tailOK (ms : List Nat) (m n : Nat) : Bool := (List.range n).all fun j => decide (j < m) || (List.range j).all fun i => (ms.getD j 0).testBit i
theorem tailOK_spec {ms : List Nat} {m n : Nat} (h : tailOK ms m n = true) {j i : Nat} (hj : m ≤ j) (hn : j < n) (hi : i < j) : (ms.getD j 0).testBit i = true := by
  simp only [tailOK, List.all_eq_true, List.mem_range, Bool.or_eq_true, decide_eq_true_eq] at h
  rcases h j hn with h | h
  · omega
  · exact h i hi
/-- the order of the last operations -/
theorem go_tail (hback : okBack ops 0 = true) {m : Nat} (htail : tailOK (masks [] ops) m ops.length = true) : ∀ (fuel tt : Nat) (listed : Array Bool) (L : List Nat) (m' : Nat), m ≤ m' → m' ≤ ops.length → (∀ i, listed.getD i false = true ↔ i ∈ L) → listed.size = ops.length → Lin ops L → (∀ i, i ∈ L ↔ i < m') → ops.length ≤ fuel + m' →
    (Region.linearise.go .any ops.toArray fuel tt listed []).map (fun i => ops.toArray[i]?) = (ops.drop m').map some := by
  intro fuel
  induction fuel with
  | zero =>
    intro tt listed L m' h1 h2 hlist hsz hL hm hle
    have : m' = ops.length := by omega
    subst this
    simp [Region.linearise.go]
  | succ fuel ih =>
    intro tt listed L m' h1 h2 hlist hsz hL hm hle
    simp only [Region.linearise.go]
    change (match (Region.ready .any ops.toArray listed)[tt % (Region.ready .any ops.toArray listed).length]? with
      | some i => Region.linearise.go .any ops.toArray fuel (tt / (Region.ready .any ops.toArray listed).length) (listed.setIfInBounds i true) [i]
      | none => [].reverse).map (fun i => ops.toArray[i]?) = _
    cases hi : (Region.ready .any ops.toArray listed)[tt % (Region.ready .any ops.toArray listed).length]? with
    | none =>
      have hnil : Region.ready .any ops.toArray listed = [] := by
        cases hr : Region.ready .any ops.toArray listed with
        | nil => rfl
        | cons x xs =>
          rw [hr] at hi
          have hlt : tt % (x :: xs).length < (x :: xs).length := Nat.mod_lt _ (by simp)
          simp at hi
          simp at hlt
          omega
      have hall := okBack_ready hback hlist hsz hnil
      have : m' = ops.length := by
        apply Classical.byContradiction
        intro hne
        have := (hm m').1 (hall m' (by omega))
        omega
      subst this
      simp
    | some i =>
      have hmem : i ∈ Region.ready .any ops.toArray listed := List.mem_of_getElem? hi
      obtain ⟨hun, o, ho, hedges⟩ := mem_ready.1 hmem
      have ho' : ops[i]? = some o := by simpa using ho
      have hilt : i < ops.length := (List.getElem?_eq_some_iff.1 ho').1
      have hnL : i ∉ L := fun hx => by
        have h1 := (hlist i).2 hx
        rw [Array.getD_eq_getD_getElem?, Array.getElem?_eq_getElem (by omega)] at h1 hun
        simp at h1 hun
        rw [h1] at hun; cases hun
      have hL' : Lin ops (L ++ [i]) := .snoc L i o hL hnL ho' fun e he hb => (hlist _).1 (hedges e (by simpa using he) hb)
      have him : i = m' := by
        have h3 : ¬ i < m' := fun h => hnL ((hm i).2 h)
        apply Classical.byContradiction
        intro hne
        have hbit := tailOK_spec htail (j := i) (i := m') (by omega) hilt (by omega)
        have := masks_spec ops ops [] [] rfl rfl (by simp) i m' hbit L hL'
        have := (hm m').1 this
        omega
      subst him
      simp only []
      rw [linearise_go_acc, List.reverse_singleton, List.singleton_append, List.map_cons]
      have hd : ops.drop i = o :: ops.drop (i + 1) := by
        rw [List.getElem?_eq_some_iff] at ho'
        rw [List.drop_eq_getElem_cons hilt, ho'.2]
      rw [hd, List.map_cons, ho]
      congr 1
      refine ih _ _ (L ++ [i]) (i + 1) (by omega) (by omega) (fun j => ?_) (by simpa using hsz) hL' (fun j => ?_) (by omega)
      · by_cases hji : j = i
        · subst hji; simp [hsz, hilt]
        · rw [getD_set_ne false (Ne.symm hji), hlist]; simp [hji]
      · rw [List.mem_append, hm]; simp; omega
theorem run_tail {m : Nat} (hes : es.length = m) (hmo : m ≤ ops.length) (hchk : okTrace (ops.take m) s es = true) (hback : okBack ops 0 = true) (htail : tailOK (masks [] ops) m ops.length = true) {t : St} (htext : Text s es t)
    (hloc : ∀ i e, es[i]? = some e → Loc P f R ops.toArray k s.n i e) (h : Ops P f R ops.toArray (ops.drop m) k t) :
    ∀ (fuel tt : Nat) (listed : Array Bool) (L : List Nat), (∀ i, listed.getD i false = true ↔ i ∈ L) → listed.size = ops.length → Lin ops L → (∀ i ∈ L, i < m) → ops.length ≤ fuel + L.length →
      Run P f R (.inRegion ops.toArray (Region.linearise.go .any ops.toArray fuel tt listed []) :: k) (after es s L) := by
  -- all of the first part done
  have done : ∀ (fuel tt : Nat) (listed : Array Bool) (L : List Nat), (∀ i, listed.getD i false = true ↔ i ∈ L) → listed.size = ops.length → Lin ops L → (∀ i, i ∈ L ↔ i < m) → ops.length ≤ fuel + m →
      Run P f R (.inRegion ops.toArray (Region.linearise.go .any ops.toArray fuel tt listed []) :: k) (after es s L) := by
    intro fuel tt listed L hlist hsz hL hall hle
    have hg := go_tail hback htail fuel tt listed L m (Nat.le_refl _) hmo hlist hsz hL hall hle
    have hr := h _ hg
    obtain ⟨h1, h2⟩ := all_done hchk (lin_take hL fun i hi => (hall i).1 hi) (fun i hi => (hall i).2 (by omega))
    rw [← htext.state.1] at h1 h2
    refine Run.same_view (s := t) ?_ h1 h2 ?_ hr
    · rw [htext.state.1, after_n, after_n]
    · rw [upOf, upOf t]; funext d x; exact h2 _
  intro fuel
  induction fuel with
  | zero =>
    intro tt listed L hlist hsz hL hlm hle
    have hlen := nodup_lt_length m L (lin_nodup hL) hlm
    refine done 0 tt listed L hlist hsz hL (fun i => ⟨hlm i, fun hi => ?_⟩) (by omega)
    apply Classical.byContradiction
    intro hn
    have := nodup_lt_length m (i :: L) (List.nodup_cons.2 ⟨hn, lin_nodup hL⟩) (fun x hx => by
      simp at hx
      rcases hx with rfl | hx
      · exact hi
      · exact hlm x hx)
    simp at this
    omega
  | succ fuel ih =>
    intro tt listed L hlist hsz hL hlm hle
    by_cases hfull : ∀ i, i < m → i ∈ L
    · have hlen : m ≤ L.length := by
        have := nodup_lt_length m (List.range m) List.nodup_range (by simp)
        have h2 : ∀ (A B : List Nat), A.Nodup → (∀ x ∈ A, x ∈ B) → A.length ≤ B.length := by
          intro A
          induction A with
          | nil => intro B _ _; simp
          | cons a A ihA =>
            intro B hnd hsub
            obtain ⟨ha, hnd'⟩ := List.nodup_cons.1 hnd
            have haB := hsub a (by simp)
            have := ihA (B.erase a) hnd' fun x hx => by
              have : x ≠ a := fun e => ha (e ▸ hx)
              exact (List.mem_erase_of_ne this).2 (hsub x (by simp [hx]))
            rw [List.length_erase_of_mem haB] at this
            have hpos : 0 < B.length := List.length_pos_of_mem haB
            simp; omega
        have := h2 (List.range m) L List.nodup_range fun x hx => hfull x (by simpa using hx)
        simpa using this
      have hlen2 := nodup_lt_length m L (lin_nodup hL) hlm
      exact done (fuel + 1) tt listed L hlist hsz hL (fun i => ⟨hlm i, hfull i⟩) (by omega)
    · simp only [Region.linearise.go]
      change Run P f R (.inRegion ops.toArray (match (Region.ready .any ops.toArray listed)[tt % (Region.ready .any ops.toArray listed).length]? with
        | some i => Region.linearise.go .any ops.toArray fuel (tt / (Region.ready .any ops.toArray listed).length) (listed.setIfInBounds i true) [i]
        | none => [].reverse) :: k) (after es s L)
      cases hi : (Region.ready .any ops.toArray listed)[tt % (Region.ready .any ops.toArray listed).length]? with
      | none =>
        exfalso
        have hnil : Region.ready .any ops.toArray listed = [] := by
          cases hr : Region.ready .any ops.toArray listed with
          | nil => rfl
          | cons x xs =>
            rw [hr] at hi
            have hlt : tt % (x :: xs).length < (x :: xs).length := Nat.mod_lt _ (by simp)
            simp at hi
            simp at hlt
            omega
        exact hfull fun i hi => okBack_ready hback hlist hsz hnil i (by omega)
      | some i =>
        have hmem : i ∈ Region.ready .any ops.toArray listed := List.mem_of_getElem? hi
        obtain ⟨hun, o, ho, hedges⟩ := mem_ready.1 hmem
        have ho' : ops[i]? = some o := by simpa using ho
        have hilt : i < ops.length := (List.getElem?_eq_some_iff.1 ho').1
        have hnL : i ∉ L := fun hx => by
          have h1 := (hlist i).2 hx
          rw [Array.getD_eq_getD_getElem?, Array.getElem?_eq_getElem (by omega)] at h1 hun
          simp at h1 hun
          rw [h1] at hun; cases hun
        have hL' : Lin ops (L ++ [i]) := .snoc L i o hL hnL ho' fun e he hb => (hlist _).1 (hedges e (by simpa using he) hb)
        have him : i < m := by
          apply Classical.byContradiction
          intro hge
          refine hfull fun j hj => ?_
          have hbit := tailOK_spec htail (j := i) (i := j) (by omega) hilt (by omega)
          exact masks_spec ops ops [] [] rfl rfl (by simp) i j hbit L hL'
        have hLm' : ∀ j ∈ L ++ [i], j < m := fun j hj => by
          simp at hj
          rcases hj with hj | rfl
          · exact hlm j hj
          · exact him
        simp only []
        rw [linearise_go_acc, List.reverse_singleton, List.singleton_append]
        have hag := agrees_any hchk htext (lin_take hL' hLm')
        refine hloc i _ (getD_eq (by omega)) (after es s L) (after_n es L s) hag _ ?_
        rw [← after_snoc]
        refine ih _ _ (L ++ [i]) (fun j => ?_) (by simpa using hsz) hL' hLm' (by simp; omega)
        by_cases hji : j = i
        · subst hji; simp [hsz, hilt]
        · rw [getD_set_ne false (Ne.symm hji), hlist]; simp [hji]
/-- what is asked of the trace and of the order -/
def okTail (ops : List Oper) (s : St) (es : List Eff) : Bool := decide (es.length ≤ ops.length) && okTrace (ops.take es.length) s es && okBack ops 0 && tailOK (masks [] ops) es.length ops.length
theorem r_drawt {id : Nat} (hmix : P.follows .mixedOrders = true) (hchk : okTail ops s es = true) {t : St} (htext : Text s es t) (hloc : ∀ i e, es[i]? = some e → Loc P f R ops.toArray k s.n i e) (h : Ops P f R ops.toArray (ops.drop es.length) k t) :
    Run P f R (.code (.region id ops.toArray true) :: k) s := by
  simp only [okTail, Bool.and_eq_true, decide_eq_true_eq] at hchk
  obtain ⟨⟨⟨h1, h2⟩, h3⟩, h4⟩ := hchk
  intro β own a w hrep b hb hk hn cs
  have hlen : (Array.replicate ops.toArray.size false).size = ops.length := by simp
  have key := run_tail rfl h1 h2 h3 h4 htext hloc h ops.toArray.size (w.tape w.drawn (.order b.fn id)) (Array.replicate ops.toArray.size false) [] (fun i => by simp [Array.getElem?_replicate]; split <;> simp) hlen .nil (by simp) (by simp)
  have hw : RowKit.Below w.heap.size w { w with drawn := w.drawn + 1 } := ⟨rfl, rfl, rfl, Nat.le_refl _, fun _ _ => rfl⟩
  have hdone := key β own a { w with drawn := w.drawn + 1 } (hrep.below hw) b hb hk hn cs
  refine (hdone.ext (Below.ext hw own)).of_steps (.one ?_)
  have := stepR_region_draw (P := P) (b := b) (a := { a with defers := b.defers }) (k := k) (cs := cs) (w := w) (ops := ops.toArray) (id := id)
  refine this.trans ?_
  simp only [Region.schedule, hmix, Bool.true_or, if_true]
  rfl
variable {id : Nat} {s0 : St} {done : List Eff} {l : List Oper}
/-- the last operations of a region that draws, in the text's order -/
theorem t_tail (hmix : P.follows .mixedOrders = true) (hchk : okTail ops s0 done = true) (h : Ops P f R ops.toArray l k s) : Tr P f R id ops k s0 done s l :=
  fun ⟨pre, hops, hlen⟩ hloc htext _ => r_drawt hmix hchk htext hloc (by rw [hops, ← hlen, List.drop_left, ← hops]; exact h)
end
end Go.Ab
namespace Go.Ab
set_option linter.unusedVariables false
set_option linter.unusedSimpArgs false
set_option linter.unnecessarySimpa false
variable {P : Program} {f : FuncId} {R : Post} {k : List Item} {all : Array Oper} {o : Oper} {l : List Oper}
variable {n : Nat} {tm : List (Nat × PV)} {hp : Hp} {up : Hf} {d : Nat} {ty : TypeId} {pos : String} {aft : Array Edge} {gd : Option (Nat × Bool)} {op : Op} {p : PV}
theorem does_append_src {s : St} {t e : TypeId} {ti te : TI} (ht : HasT P t ti) (he : HasT P e te) {x y : Operand} {m : Nm} {e' : TypeId} {kk : Nat} {xs ys : List (List D)} (hx : s.ev x = some (.ref m)) (hsrc : ∀ β own a w, Rep s β own a w → ∃ (ad : Option Addr) (cap' : Nat) (us : List Value), a.eval y = .slice ad ys.length cap' ∧ RowR w own te.size ys us ∧ (ys ≠ [] → ∃ a', ad = some a' ∧ ∀ j u, us[j]? = some u → w.cell? (a'.add j) = some u)) (hb : rawF s m = some (.row e' kk xs))
    (hm : m.1 = 0) (hk : ti.kind = .slice e) (hee : e' = e) (hkk : kk = te.size) (hys : ∀ y ∈ ys, y.length = te.size) (hz : te.zero.length = te.size) (hz0 : te.size ≠ 0) (hsm : (xs.length + ys.length) * te.bytes ≤ 140737488355328) (hsm2 : xs.length + ys.length ≤ 9223372036854775807)
    (hf : (freeHp d s.hp && freeTm d s.tm) = true) (hd : d < s.n) :
    Does P ⟨some d, .call ⟨.builtin .append, #[x, y], #[t, t]⟩, ty, pos, aft, gd⟩ s (s.app ⟨[], [], [], [(d, .ref (0, d))], [(m, .gone), ((0, d), .row e kk (xs ++ ys))]⟩) := by
  obtain ⟨n, tm, hp, up⟩ := s
  obtain ⟨md, ms⟩ := m
  simp only at hm hf hd
  subst hm hee hkk
  intro β own a w hr
  have hlook : lookF (push hp up) (0, ms) = some (.row e' te.size xs) := hb
  obtain ⟨vs, ho, hk0, hown, hrr⟩ := hr.row hlook
  obtain ⟨ad0, cap0, us0, hu0, hus0, hc0⟩ := hsrc β own a w hr
  have hxv := hr.ev hx
  generalize hv : a.eval x = v at hxv
  have hu : a.eval y = .slice ad0 ys.length cap0 := hu0
  obtain ⟨u, hue⟩ : ∃ u, u = Value.slice ad0 ys.length cap0 := ⟨_, rfl⟩
  rw [← hue] at hu
  cases hxv with
  | ref _ =>
    -- what the machine does
    have main : ∃ v' w' us, (Builtin.append_ #[t, t] ty #[β (0, ms), u]).run P w = .ok v' w' ∧ w'.ownsRow 0 e' te.size v' (xs.length + ys.length) (vs ++ us) ∧ w.grownBy w' (β (0, ms)).ownBlock ∧ RowR w own te.size ys us ∧
        (v'.ownBlock = (β (0, ms)).ownBlock ∨ v'.ownBlock = some w.heap.size) := by
      by_cases hnil : ys = []
      · subst hnil
        obtain ⟨b, cap', rfl⟩ : ∃ b cap', u = .slice b 0 cap' := ⟨ad0, cap0, hue⟩
        refine ⟨β (0, ms), w, [], ?_, by simpa using hown, ⟨rfl, rfl, rfl, Nat.le_refl _, fun _ _ _ => rfl⟩, ⟨by simp, by simp, by simp, by simp⟩, .inl rfl⟩
        rcases hown.2 with ⟨h1, h2⟩ | ⟨g, cap, cur, h1, _, h3, h4, h5, h6, h7⟩
        · rw [h1]; exact run_app_nothing ht he hk none 0 0 b cap' (Nat.le_refl _) w hz0
        · rw [h1]; exact run_app_nothing ht he hk _ _ _ b cap' h4 w hz0
      · obtain ⟨ad, cap, us, rfl, hus, hcells⟩ : ∃ (ad : Addr) (cap : Nat) (us : List Value), u = .slice (some ad) ys.length cap ∧ RowR w own te.size ys us ∧ ∀ j u, us[j]? = some u → w.cell? (ad.add j) = some u := by
          obtain ⟨a', ha', hcs⟩ := hc0 hnil
          exact ⟨a', cap0, us0, by rw [hue, ha'], hus0, hcs⟩
        obtain ⟨i, uu, z, hi, huu, hzi, hs, hb', hkk, hzz, _⟩ := he.get
        obtain ⟨v', w', hrun, h1, h2, h3⟩ := run_append_where (P := P) w 0 t ty e' i z te.size te.bytes (ht.slice hk) hi hzi hs hb' (by rw [← Array.length_toList, hzz]; exact hz) hk0 (β (0, ms)) xs.length vs hown ad ys.length cap us hus.2.1 hcells hus.2.2.1
          (by unfold maxLen; exact hsm2) hsm (Nat.zero_le _) (by cases ys <;> simp_all)
        exact ⟨v', w', us, hrun, h1, h2, hus, h3⟩
    obtain ⟨v', w', us, hrun, hown', hgrow, hus, hwhere⟩ := main
    have hblk := blockOf_row hown'
    have hblk0 := blockOf_row hown
    have hE : Ext w own w' (fun g => own g ∨ v'.ownBlock = some g) := by
      refine ⟨hgrow.os, hgrow.tape, hgrow.output, hgrow.size, fun b hb hno => hgrow.block b hb fun e => hno (ho b e.symm), fun b hb hno => ?_⟩
      rintro (h | h)
      · exact hno h
      · rcases hwhere with e | e
        · rw [e] at h; exact hno (ho b h)
        · rw [e] at h; simp at h; omega
    have hr0 : Rep ⟨n, tm, (ms, .gone) :: hp, up⟩ β own a w := ⟨hr.size, hr.defers, hr.tm, by
      have := hr.heap.drop (0, ms)
      rwa [← push_setB ⟨n, tm, hp, up⟩ (0, ms) .gone] at this⟩
    have hrow : RowR w' (fun g => own g ∨ v'.ownBlock = some g) te.size (xs ++ ys) (vs ++ us) := (RowR.app hrr hus).mono hE
    have hin := hr0.install (d := d) (b := .row e' te.size (xs ++ ys)) (v := v') (own' := fun g => own g ∨ v'.ownBlock = some g) (by simpa [freeHp, Blk.says] using hf) hE
      (fun g hg => by
        rcases hg with hg | hg
        · exact Nat.lt_of_lt_of_le (hr.heap.lt g hg) hgrow.size
        · exact (hown'.lt g hg).2)
      (fun q c hq hl hqd g hg => by
        rw [lookF_cons] at hq
        by_cases hqm : q = (0, ms)
        · rw [if_pos hqm] at hq; simp at hq; subst hq; cases hl
        · rw [if_neg hqm] at hq
          have hog := (hr.heap.blk q c hq).block_lt hl hg
          have hne : (β (0, ms)).ownBlock ≠ some g := fun e => hr.heap.inj q (0, ms) c _ hq hlook hl rfl hqm g hg (by rw [hblk0]; exact e)
          refine ⟨hgrow.block g (hr.heap.lt g hog) (fun e => hne e.symm), .inl hog, fun _ e => ?_⟩
          rw [hblk] at e
          rcases hwhere with h | h
          · rw [h] at e; exact hne e
          · rw [h] at e; simp at e; have := hr.heap.lt g hog; omega)
      (.row v' e' te.size _ _ (fun g hg => .inr hg) hk0 (by rw [List.length_append]; exact hown') hrow)
    refine ⟨_, v', w', setβ β d v', _, ?_, .inl rfl, ?_, hE, outn_setβ _ _ _⟩
    · simp [execOp, resolve, invoke, builtin, hv, hu, hrun]
    · have hp := PR.ref (β := setβ β d v') (w := w') (own := fun g => own g ∨ v'.ownBlock = some g) (0, d)
      rw [setβ_same] at hp
      exact hin.put (dst := some d) (p := .ref (0, d)) (by simpa [St.fits] using hd) hp


/-- a whole row as a source -/
theorem src_ref {s : St} {β : Nm → Value} {own : Nat → Prop} {a : Act} {w : World} (hr : Rep s β own a w) {m : Nm} {e' kk : Nat} {ys : List (List D)} (hb : rawF s m = some (.row e' kk ys)) {v : Value} (hv : PR β w own (.ref m) v) :
    ∃ (ad : Option Addr) (cap' : Nat) (us : List Value), v = .slice ad ys.length cap' ∧ RowR w own kk ys us ∧ (ys ≠ [] → ∃ a', ad = some a' ∧ ∀ j u, us[j]? = some u → w.cell? (a'.add j) = some u) := by
  obtain ⟨vs, ho, hk0, hown, hrr⟩ := hr.row ((lookF_raw hb).trans (by rw [atF_row]))
  cases hv with
  | ref _ =>
    rcases hown.2 with ⟨h1, h2⟩ | ⟨g, cap2, cur, hv2, _, hg, hle, hmx, hcs, htake⟩
    · refine ⟨none, 0, vs, ?_, hrr, fun hne => absurd (List.eq_nil_of_length_eq_zero h2) hne⟩
      rw [h1, h2]
    · refine ⟨some ⟨g, 0, none⟩, cap2, vs, hv2, hrr, fun _ => ⟨⟨g, 0, none⟩, rfl, fun j u hu => ?_⟩⟩
      rw [← htake, List.getElem?_take] at hu
      split at hu
      · rw [addr_add, cell_of_row w g _ cur e' (0, 0) hg]
        simpa using hu
      · cases hu
/-- a row of one's own appended to another one -/
theorem o_appr {t e : TypeId} {ti te : TI} [ht : HasT P t ti] [he : HasT P e te] {x y : Operand} {ms : Nat} {m2 : Nm} {kk e2 : Nat} {α : Type} {q r : List α} {g : α → List D} (hev : St.evs ⟨n, tm, hp, up⟩ [x, y] = some [.ref (0, ms), .ref m2]) (hb : look hp ms = some (.row e kk (q.map g))) (hb2 : rawF ⟨n, tm, hp, up⟩ m2 = some (.row e2 kk (r.map g)))
    (hk : ti.kind = .slice e) (hkk : kk = te.size) (hap : apOK te = true) (hgl : ∀ v, (g v).length = te.size) (hbt : decide (te.bytes ≤ 1024) = true) (hfr : (freeHp d hp && freeTm d tm) = true) (hd : d < n) (hq : q.length + r.length < 137438953472)
    (h : Ops P f R all l k ⟨n, (d, .ref (0, d)) :: tm, (d, .row e kk ((q ++ r).map g)) :: (ms, .gone) :: hp, up⟩) :
    Op1 P f R all ⟨some d, .call ⟨.builtin .append, #[x, y], #[t, t]⟩, ty, pos, aft, gd⟩ l k ⟨n, tm, hp, up⟩ := by
  obtain ⟨hx, hy, _⟩ := evE (xs := [(x, .ref (0, ms)), (y, .ref m2)]) hev
  simp only [apOK, Bool.and_eq_true, beq_iff_eq, bne_iff_ne] at hap
  have hsm : (q.length + r.length) * te.bytes ≤ 140737488355328 := app_small (by simpa using hbt) (by omega)
  refine o_does (does_append_src (P := P) (s := ⟨n, tm, hp, up⟩) (m := (0, ms)) (ys := r.map g) ht he hx (fun β own a w hr => ?_) hb rfl hk rfl hkk (by simp [hgl]) hap.1 hap.2 (by simpa using hsm) (by simp; omega) hfr hd) ?_
  · obtain ⟨ad, cap', us, h1, h2, h3⟩ := src_ref hr hb2 (hr.ev hy)
    subst hkk
    exact ⟨ad, cap', us, h1, h2, h3⟩
  · rw [List.map_append] at h; exact h
end Go.Ab
namespace Go.Ab
set_option linter.unusedVariables false
set_option linter.unusedSimpArgs false
variable {P : Program} {f : FuncId} {R : Post} {k : List Item} {all : Array Oper} {o : Oper} {l : List Oper}
variable {n : Nat} {tm : List (Nat × PV)} {hp : Hp} {up : Hf} {d : Nat} {ty : TypeId} {pos : String} {aft : Array Edge} {gd : Option (Nat × Bool)} {op : Op} {p : PV}
variable {k' : List Item} {s s' : St}
theorem Run.stepV (h : ∀ β own a w, Rep s β own a w → ∀ (b : Frame) cs, ∃ β' own' a' w', Rep s' β' own' a' w' ∧ Ext w own w' own' ∧ (∀ n, ¬ R.vol n → outn β' n = outn β n) ∧
      Steps P (lone (am b a k) cs w) (lone (am b a' k') cs w')) (hr : Run P f R k' s') : Run P f R k s := by
  intro β own a w hrep b hb hk hn cs
  obtain ⟨β', own', a', w', hrep', hext, ho, hst⟩ := h β own a w hrep b cs
  refine (((hr β' own' a' w' hrep' b hb hk ?_ cs).same ho).ext hext).of_steps hst
  unfold RndOK at hn ⊢
  cases hm : R.rnd with
  | none => rw [hm] at hn; exact hn
  | some m =>
    rw [hm] at hn
    obtain ⟨hv, L, h1, h2⟩ := hn
    exact ⟨hv, L, h1, (ho m hv).trans h2⟩
/-! one name for another in boxes and slots -/
def PV.alias (a b : Nm) : PV → PV
  | .ref q => if q == b then .ref a else .ref q
  | p => p
def aliasL (a b : Nm) : List PV → List PV
  | [] => []
  | p :: r => p.alias a b :: aliasL a b r
def Blk.alias (a b : Nm) : Blk → Blk
  | .box cs => .box (aliasL a b cs)
  | q => q
def aliasHp (a b : Nm) : Hp → Hp
  | [] => []
  | (t, q) :: r => (t, q.alias a b) :: aliasHp a b r
theorem aliasL_get (a b : Nm) : ∀ (cs : List PV) (j : Nat), (aliasL a b cs)[j]? = (cs[j]?).map (PV.alias a b)
  | [], j => by simp [aliasL]
  | p :: r, 0 => by simp [aliasL]
  | p :: r, j + 1 => by simp [aliasL, aliasL_get a b r j]
theorem aliasL_len (a b : Nm) : ∀ cs : List PV, (aliasL a b cs).length = cs.length
  | [] => rfl
  | p :: r => by simp [aliasL, aliasL_len a b r]
theorem look_aliasHp {a b : Nm} : ∀ {hp : Hp} {t : Nat}, look (aliasHp a b hp) t = (look hp t).map (Blk.alias a b)
  | [], t => rfl
  | (k, p) :: r, t => by
    simp only [aliasHp, look]
    split
    · rfl
    · exact look_aliasHp
theorem PR.alias {β : Nm → Value} {w : World} {own : Nat → Prop} {a b : Nm} (hab : β a = β b) {p : PV} {v : Value} (h : PR β w own p v) : PR β w own (p.alias a b) v := by
  cases h with
  | ref q =>
    simp only [PV.alias]
    split
    · rename_i e; simp at e; subst e; rw [← hab]; exact .ref _
    · exact .ref _
  | any => exact .any _
  | d _ _ h => exact .d _ _ h
  | ptr m off g h => exact .ptr m off g h
  | eptr cs g o c h1 h2 h3 h4 => exact .eptr cs g o c h1 h2 h3 h4
  | rptr m k i off g len cap h => exact .rptr m k i off g len cap h
  | rsub m k lo len L cap a h h1 h2 => exact .rsub m k lo len L cap a h h1 h2
  | al m m' h v => exact .al m m' h v
  | agg cs vs h1 h2 h3 => exact .agg cs vs h1 h2 h3
  | tup cs vs h1 h2 => exact .tup cs vs h1 h2
  | fn f a b c d e g h i => exact .fn f a b c d e g h i
  | yl m L h => exact .yl m L h
  | full xs a h => exact .full xs a h
theorem BR.alias {β : Nm → Value} {w : World} {own : Nat → Prop} {a b : Nm} (hab : β a = β b) {v : Value} {q : Blk} (h : BR β w own v q) : BR β w own v (q.alias a b) := by
  cases h with
  | box g t cs cur ho hg hl h1 hd =>
    refine .box g t _ cur ho hg (by rw [aliasL_len]; exact hl) h1 fun j x u hx hu => ?_
    rw [aliasL_get] at hx
    cases hc : cs[j]? with
    | none => rw [hc] at hx; cases hx
    | some y => rw [hc] at hx; simp at hx; subst hx; exact (hd j y u hc hu).alias hab
  | row v e k xs vs ho hk hr hd => exact .row v e k xs vs ho hk hr hd
  | siter g s pos ho hg => exact .siter g s pos ho hg
  | mp g clock es cur ho hg hl hd hb hc => exact .mp g clock es cur ho hg hl hd hb hc
  | lp g n' f ps asg body st state pending tmps df ho hg hl hd => exact .lp g n' f ps asg body st state pending tmps df ho hg hl hd
  | gone v => exact .gone v
theorem Blk.alias_live (a b : Nm) (q : Blk) : (q.alias a b).live = q.live := by cases q <;> rfl
/-- the own boxes, in which another name stands for the same row -/
theorem HR.alias {β : Nm → Value} {own : Nat → Prop} {w : World} {a b : Nm} (hab : β a = β b) (h : HR (push hp up) β own w) : HR (push (aliasHp a b hp) up) β own w := by
  have key : ∀ m c, lookF (push (aliasHp a b hp) up) m = some c → (m.1 = 0 ∧ ∃ q, lookF (push hp up) m = some q ∧ c = q.alias a b) ∨ lookF (push hp up) m = some c := by
    rintro ⟨e, t⟩ c hc
    cases e with
    | zero =>
      left
      have hc' : look (aliasHp a b hp) t = some c := hc
      rw [look_aliasHp] at hc'
      cases hq : look hp t with
      | none => rw [hq] at hc'; cases hc'
      | some q => rw [hq] at hc'; simp at hc'; exact ⟨rfl, q, hq, hc'.symm⟩
    | succ e => right; exact hc
  refine ⟨fun m c hc => ?_, fun m1 m2 c1 c2 h1 h2 l1 l2 hne => ?_, h.lt⟩
  · rcases key m c hc with ⟨_, q, hq, rfl⟩ | hq
    · exact (h.blk m q hq).alias hab
    · exact h.blk m c hq
  · have g : ∀ m c, lookF (push (aliasHp a b hp) up) m = some c → c.live = true → ∃ q, lookF (push hp up) m = some q ∧ q.live = true := by
      intro m c hc hl
      rcases key m c hc with ⟨_, q, hq, rfl⟩ | hq
      · exact ⟨q, hq, by rwa [Blk.alias_live] at hl⟩
      · exact ⟨c, hq, hl⟩
    obtain ⟨q1, e1, f1⟩ := g m1 c1 h1 l1
    obtain ⟨q2, e2, f2⟩ := g m2 c2 h2 l2
    exact h.inj m1 m2 q1 q2 e1 e2 f1 f2 hne
theorem r_alias (t : Nat) {a b : Nm} (hal : look tm t = some (.al a b)) (h : Run P f R k ⟨n, tm, aliasHp a b hp, up⟩) : Run P f R k ⟨n, tm, hp, up⟩ := by
  refine Run.le (s := ⟨n, tm, aliasHp a b hp, up⟩) (fun β own ac w hr => ⟨β, rfl, hr.size, hr.defers, hr.tm, ?_⟩) h
  have hab : β a = β b := by
    have := hr.tm _ _ hal
    generalize ac.tmps.getD t undef = v at this
    cases this with | al _ _ h _ => exact h
  exact hr.heap.alias hab
/-! what speaks of a name is forgotten -/
def dropTm (m : Nm) : List (Nat × PV) → List (Nat × PV)
  | [] => []
  | (t, p) :: r => (t, if p.says m then .any else p) :: dropTm m r
theorem look_dropTm {m : Nm} : ∀ {tm : List (Nat × PV)} {t : Nat}, look (dropTm m tm) t = (look tm t).map fun p => if p.says m then .any else p
  | [], t => rfl
  | (k, p) :: r, t => by
    simp only [dropTm, look]
    split
    · rfl
    · exact look_dropTm
theorem PR.drop {β β' : Nm → Value} {w : World} {own : Nat → Prop} {m : Nm} (hb : ∀ q, q ≠ m → β' q = β q) {p : PV} {v : Value} (h : PR β w own p v) : PR β' w own (if p.says m then .any else p) v := by
  split
  · exact .any _
  · rename_i hs
    exact h.reβ m hb (by simpa using hs)
/-- no block of a list speaks of a name -/
def quietHp (m : Nm) : Hp → Bool
  | [] => true
  | (_, b) :: r => !b.says m && quietHp m r
theorem quietHp_get {m : Nm} : ∀ {hp : Hp} {t : Nat} {b : Blk}, quietHp m hp = true → look hp t = some b → b.says m = false
  | [], t, b, _, h => by simp [look] at h
  | (k, c) :: r, t, b, hf, h => by
    simp only [quietHp, Bool.and_eq_true, Bool.not_eq_true'] at hf
    simp only [look] at h
    split at h
    · simp at h; subst h; exact hf.1
    · exact quietHp_get hf.2 h
/-- callers' blocks that do not speak of their row ms -/
def Quiet (H : Hf) (ms : Nat) : Prop := ∀ s b, H 0 s = some b → b.says (0, ms) = false
theorem nm_succ (m : Nm) (d s : Nat) : ((m.1 + 1, m.2) == ((d + 1, s) : Nm)) = (m == (d, s)) := by
  obtain ⟨a, b⟩ := m
  rw [Bool.eq_iff_iff]
  simp
mutual
theorem PV.lift_says1 (d s : Nat) : ∀ p : PV, (p.lift 1).says (d + 1, s) = p.says (d, s)
  | .ptr m off => by simp only [PV.lift, PV.says, nm_succ]
  | .ref m => by simp only [PV.lift, PV.says, nm_succ]
  | .rptr m _ _ _ => by simp only [PV.lift, PV.says, nm_succ]
  | .rsub m _ _ _ => by simp only [PV.lift, PV.says, nm_succ]
  | .al a b => by simp only [PV.lift, PV.says, nm_succ]
  | .agg cs => by simp only [PV.lift, PV.says]; exact PV.liftL_says1 d s cs
  | .tup vs => by simp only [PV.lift, PV.says]; exact PV.liftL_says1 d s vs
  | .fn f a b => by simp only [PV.lift, PV.says]; rw [PV.liftL_says1 d s a, PV.liftL_says1 d s b]
  | .yl m => by simp only [PV.lift, PV.says, nm_succ]
  | .full _ => rfl
  | .any => rfl
  | .d _ => rfl
  | .eptr _ => rfl
theorem PV.liftL_says1 (d s : Nat) : ∀ ps : List PV, PV.saysL (d + 1, s) (PV.liftL 1 ps) = PV.saysL (d, s) ps
  | [] => rfl
  | p :: ps => by simp only [PV.liftL, PV.saysL]; rw [PV.lift_says1 d s p, PV.liftL_says1 d s ps]
end
theorem liftTm_says1 (d s : Nat) : ∀ st : List (Nat × PV), saysTm (d + 1, s) (liftTm 1 st) = saysTm (d, s) st
  | [] => rfl
  | (t, p) :: r => by simp only [liftTm, saysTm]; rw [PV.lift_says1 d s p, liftTm_says1 d s r]
theorem Blk.lift_says1 (d s : Nat) (b : Blk) : (b.lift 1).says (d + 1, s) = b.says (d, s) := by
  cases b with
  | box cs => exact PV.liftL_says1 d s cs
  | lp _ _ _ _ _ st _ _ => exact liftTm_says1 d s st
  | _ => rfl
theorem Blk.lift_comp (d : Nat) (b : Blk) : b.lift (d + 1) = (b.lift d).lift 1 := (Blk.lift_lift d b).symm
theorem Blk.lift_says0 (d t s : Nat) (b : Blk) : (b.lift (d + t + 1)).says (t, s) = false := by
  induction t generalizing d with
  | zero => exact Blk.lift_says s d b
  | succ t ih => rw [show d + (t + 1) + 1 = (d + t + 1) + 1 by omega, Blk.lift_comp, Blk.lift_says1]; exact ih d
/-- a row of one's own handed to the caller under the caller's name for it, which is bound anew -/
theorem r_givev (y ms : Nat) {e kk : Nat} {xs : List (List D)} (hb : look hp y = some (.row e kk xs)) (hg : up 0 ms = some .gone) (hvol : R.vol (0, ms)) (hq : quietHp (1, ms) hp = true) (hup : Quiet up ms)
    (h : Run P f R k ⟨n, dropTm (1, ms) tm, (y, .gone) :: aliasHp (1, ms) (0, y) hp, upd up (0, ms) (.row e kk xs)⟩) : Run P f R k ⟨n, tm, hp, up⟩ := by
  refine Run.stepV (s := ⟨n, tm, hp, up⟩) (s' := ⟨n, dropTm (1, ms) tm, (y, .gone) :: aliasHp (1, ms) (0, y) hp, upd up (0, ms) (.row e kk xs)⟩) (fun β own a w hr b' fs => ?_) h
  let β' : Nm → Value := fun m => if m = (1, ms) then β (0, y) else β m
  have hne : ∀ m, m ≠ (1, ms) → β' m = β m := fun m hm => by simp [β', hm]
  have hsame : β' (1, ms) = β' (0, y) := by simp [β']
  have hy : β' (0, y) = β (0, y) := hne _ (by simp)
  -- the blocks as before, said by β'
  have hold : ∀ m c, lookF (push hp up) m = some c → c.says (1, ms) = false := by
    rintro ⟨dd, t⟩ c hc
    match dd, hc with
    | 0, hc => exact quietHp_get hq hc
    | 1, hc =>
      simp only [lookF, push] at hc
      cases hu : up 0 t with
      | none => rw [hu] at hc; cases hc
      | some q => rw [hu] at hc; simp at hc; subst hc; rw [Blk.lift_says1]; exact hup t q hu
    | dd + 2, hc =>
      simp only [lookF, push] at hc
      cases hu : up (dd + 1) t with
      | none => rw [hu] at hc; cases hc
      | some q => rw [hu] at hc; simp at hc; subst hc; exact Blk.lift_says0 dd 1 ms q
  have h1 : HR (push hp up) β' own w := by
    refine ⟨fun m c hc => ?_, fun m1 m2 c1 c2 e1 e2 l1 l2 hn => ?_, hr.heap.lt⟩
    · by_cases hm : m = (1, ms)
      · subst hm
        have hc2 : lookF (push hp up) (1, ms) = some .gone := by simp [lookF, push, hg, Blk.lift]
        rw [hc2] at hc; simp at hc; subst hc; exact .gone _
      · rw [hne m hm]; exact (hr.heap.blk m c hc).reβ (1, ms) hne (hold m c hc)
    · have hg1 : ∀ m c, lookF (push hp up) m = some c → c.live = true → m ≠ (1, ms) := by
        rintro m c hc hl rfl
        have hc2 : lookF (push hp up) (1, ms) = some .gone := by simp [lookF, push, hg, Blk.lift]
        rw [hc2] at hc; simp at hc; subst hc; cases hl
      rw [hne m1 (hg1 m1 c1 e1 l1), hne m2 (hg1 m2 c2 e2 l2)]
      exact hr.heap.inj m1 m2 c1 c2 e1 e2 l1 l2 hn
  have h2 := h1.alias (hp := hp) hsame
  refine ⟨β', own, a, w, ⟨hr.size, hr.defers, fun t p hp' => ?_, ?_⟩, Ext.refl _ _, fun m hm => ?_, .refl _ _⟩
  · simp only at hp'
    rw [look_dropTm] at hp'
    cases hq' : look tm t with
    | none => rw [hq'] at hp'; cases hp'
    | some q => rw [hq'] at hp'; simp at hp'; subst hp'; exact (hr.tm t q hq').drop hne
  · -- the row moves from the own name to the caller's
    have hrow : lookF (push (aliasHp (1, ms) (0, y) hp) up) (0, y) = some (.row e kk xs) := by
      show look (aliasHp (1, ms) (0, y) hp) y = _
      rw [look_aliasHp, hb]; rfl
    have key : ∀ m c, lookF (push ((y, .gone) :: aliasHp (1, ms) (0, y) hp) (upd up (0, ms) (.row e kk xs))) m = some c → c.live = true → (m = (1, ms) ∧ c = .row e kk xs) ∨ (m ≠ (1, ms) ∧ m ≠ (0, y) ∧ lookF (push (aliasHp (1, ms) (0, y) hp) up) m = some c) := by
      intro m c hm hc
      rw [lookF_cons] at hm
      by_cases e1 : m = (0, y)
      · rw [if_pos e1] at hm; simp at hm; subst hm; cases hc
      · rw [if_neg e1, push_upd, lookF_upd] at hm
        by_cases e2 : m = (1, ms)
        · rw [if_pos e2] at hm; simp [atF, Blk.lift] at hm; exact .inl ⟨e2, hm.symm⟩
        · rw [if_neg e2] at hm; exact .inr ⟨e2, e1, hm⟩
    refine ⟨fun m c hm => ?_, fun m1 m2 c1 c2 e1 e2 l1 l2 hn g hg' => ?_, h2.lt⟩
    · cases hc : c.live with
      | false => cases c <;> first | (simp [Blk.live] at hc; done) | exact .gone _
      | true =>
        rcases key m c hm hc with ⟨rfl, rfl⟩ | ⟨_, _, h3⟩
        · rw [hsame]; exact h2.blk _ _ hrow
        · exact h2.blk m c h3
    · rcases key m1 c1 e1 l1 with ⟨rfl, rfl⟩ | ⟨n1, n1', h3⟩
      · rcases key m2 c2 e2 l2 with ⟨rfl, rfl⟩ | ⟨n2, n2', h4⟩
        · exact absurd rfl hn
        · rw [hsame] at hg'
          exact h2.inj (0, y) m2 _ c2 hrow h4 l1 l2 (Ne.symm n2') g hg'
      · rcases key m2 c2 e2 l2 with ⟨rfl, rfl⟩ | ⟨n2, n2', h4⟩
        · rw [hsame]
          exact h2.inj m1 (0, y) c1 _ h3 hrow l1 l2 n1' g hg'
        · exact h2.inj m1 m2 c1 c2 h3 h4 l1 l2 hn g hg'
  · refine hne _ fun e => hm ?_
    simp only [Prod.mk.injEq] at e
    have : m = (0, ms) := Prod.ext (by omega) e.2
    subst this
    exact hvol
/-! contracts of functions that bind the name (0, ms) of a row anew -/
/-- no block but those of bs speaks of the row -/
def QuietBut (H : Hf) (bs : List (Nm × Blk)) (ms : Nat) : Prop := ∀ s b, (∀ q ∈ bs, q.1 ≠ (0, s)) → H 0 s = some b → b.says (0, ms) = false
def EffV (P : Program) (g : FuncId) (args : List PV) (bs hs : List (Nm × Blk)) (p : PV) (ms : Nat) : Prop :=
  ∀ H : Hf, (∀ q ∈ bs, H q.1.1 q.1.2 = some q.2) → QuietBut H bs ms → SpecV P g args H ⟨fun r H' => r = .v p ∧ H' = updL H hs, fun n => n = (0, ms), none⟩
theorem effv_of {g : FuncId} {args : List PV} {bs hs : List (Nm × Blk)} {p : PV} {ms : Nat} (h : ∀ H : Hf, (∀ q ∈ bs, H q.1.1 q.1.2 = some q.2) → QuietBut H bs ms → SpecV P g args H ⟨fun r H' => r = .v p ∧ H' = updL H hs, fun n => n = (0, ms), none⟩) : EffV P g args bs hs p ms := h
def quietBut (bs : List (Nm × Blk)) (ms : Nat) : Hp → Bool
  | [] => true
  | (s, b) :: r => ((bs.any fun q => q.1 == (0, s)) || !b.says (0, ms)) && quietBut bs ms r
theorem quietBut_get {bs : List (Nm × Blk)} {ms : Nat} : ∀ {hp : Hp} {s : Nat} {b : Blk}, quietBut bs ms hp = true → (∀ q ∈ bs, q.1 ≠ (0, s)) → look hp s = some b → b.says (0, ms) = false
  | [], s, b, _, _, h => by simp [look] at h
  | (k, c) :: r, s, b, hf, hs, h => by
    simp only [quietBut, Bool.and_eq_true, Bool.or_eq_true, List.any_eq_true, beq_iff_eq, Bool.not_eq_true'] at hf
    simp only [look] at h
    split at h
    · rename_i e; subst e
      simp at h; subst h
      rcases hf.1 with ⟨q, hq, e⟩ | h1
      · exact absurd e (hs q hq)
      · exact h1
    · exact quietBut_get hf.2 hs h
theorem o_effv {g : FuncId} {fo : Operand} {args : List Operand} {first cap ps : List PV} {ats : Array TypeId} {bs hs : List (Nm × Blk)} {ms : Nat} {s' : St} (hsp : EffV P g (first ++ ps ++ cap) bs hs p ms) (hfo : St.ev ⟨n, tm, hp, up⟩ fo = some (.fn (.func g) first cap)) (hev : St.evs ⟨n, tm, hp, up⟩ args = some ps)
    (hb : BkE ⟨n, tm, hp, up⟩ bs) (hq : quietBut bs ms hp = true) (hps : p.says (0, ms) = false) (hd : d < n) (hs' : St.app ⟨n, dropTm (0, ms) tm, hp, up⟩ ⟨[], [], [], [(d, p)], hs⟩ = s') (h : Ops P f R all l k s') :
    Op1 P f R all ⟨some d, .call ⟨.value fo, args.toArray, ats⟩, ty, pos, aft, gd⟩ l k ⟨n, tm, hp, up⟩ := by
  have hsp' := hsp (push hp up) (fun q hq => bks_all (bkE hb) q hq) (fun s b hs hb' => quietBut_get hq hs hb')
  refine o_enter (g := g) fun β own a w hr => ?_
  obtain ⟨vals, hrun, hargs⟩ := run_call hr hfo hev hsp'.plain (dst := some d) (ats := ats) (ty := ty) (pos := pos) (aft := aft) (gd := gd)
  refine ⟨vals.toArray, w, own, hrun, Ext.refl _ _, (hsp'.run β own w vals hr.heap hargs).mono fun e w' hfin => ?_⟩
  obtain ⟨v, r, H, own', β', he, ⟨hr1, hH⟩, hrv, hheap, hext, hβ⟩ := hfin
  subst hr1
  cases hrv with
  | v _ _ hpv =>
    refine ⟨v, β', own', _, he, ?_, hext, funext fun m => hβ _ (by simp), h⟩
    have hr' : Rep (St.setBs ⟨n, dropTm (0, ms) tm, hp, up⟩ hs) β' own' a w' := by
      refine ⟨?_, hr.defers, fun t q hq => ?_, ?_⟩
      · rw [(setBs_raw hs _).2.1]; exact hr.size
      · rw [(setBs_raw hs _).1] at hq
        simp only at hq
        rw [look_dropTm] at hq
        cases hq' : look tm t with
        | none => rw [hq'] at hq; cases hq
        | some q0 => rw [hq'] at hq; simp at hq; subst hq; exact ((hr.tm t q0 hq').mono hext).drop hβ
      · rw [push_setBs]; simp only; rw [← hH]; exact hheap
    have hr2 := hr'.put (dst := some d) (p := p) (v := v) (by simp [St.fits, (setBs_raw hs _).2.1, hd]) hpv
    rw [← hs']
    exact hr2
end Go.Ab
namespace Go.Ab
set_option linter.unusedVariables false
theorem upd_two {H : Hf} {a b : Nm} {A B c e : Blk} (hne : a ≠ b) : upd (upd (upd (upd H a c) b e) b B) a A = upd (upd H a A) b B := by
  funext d s
  simp only [upd]
  by_cases h1 : d = a.1 ∧ s = a.2
  · have h2 : ¬ (d = b.1 ∧ s = b.2) := fun h => hne (Prod.ext (h1.1.symm.trans h.1) (h1.2.symm.trans h.2))
    rw [if_pos h1, if_neg h2, if_pos h1]
  · rw [if_neg h1]
    by_cases h2 : d = b.1 ∧ s = b.2
    · rw [if_pos h2, if_pos h2]
    · rw [if_neg h2, if_neg h2, if_neg h2, if_neg h1, if_neg h1]
theorem quiet_two {H : Hf} {x y : Nat} {A B : Blk} {ms : Nat} (h : QuietBut H [((0, x), A), ((0, y), B)] ms) : Quiet (upd (upd H (0, x) .gone) (0, y) .gone) ms := by
  intro s b hb
  simp only [upd, true_and] at hb
  by_cases h1 : s = y
  · rw [if_pos h1] at hb; simp at hb; subst hb; rfl
  rw [if_neg h1] at hb
  by_cases h2 : s = x
  · rw [if_pos h2] at hb; simp at hb; subst hb; rfl
  rw [if_neg h2] at hb
  refine h s b (fun q hq => ?_) hb
  simp only [List.mem_cons, List.not_mem_nil, or_false] at hq
  rcases hq with rfl | rfl
  · intro e; simp only [Prod.mk.injEq, true_and] at e; exact h2 e.symm
  · intro e; simp only [Prod.mk.injEq, true_and] at e; exact h1 e.symm
theorem updL_two (H : Hf) (a b : Nm) (A B : Blk) : updL H [(a, A), (b, B)] = upd (upd H a A) b B := rfl
end Go.Ab
namespace Go.Ab
variable {P : Program} {f : FuncId} {R : Post} {k : List Item} {all : Array Oper} {l : List Oper}
variable {n : Nat} {tm : List (Nat × PV)} {hp : Hp} {up : Hf} {d : Nat} {ty : TypeId} {pos : String} {aft : Array Edge} {gd : Option (Nat × Bool)} {p : PV}
/-- a call that changes a variable of one's own and the row in it -/
theorem o_effv2 {g : FuncId} {fo : Operand} {args : List Operand} {first cap ps : List PV} {ats : Array TypeId} {x y : Nat} {A B A' B' : Blk} {ms : Nat} (hsp : EffV P g (first ++ ps ++ cap) [((0, x), A), ((0, y), B)] [((0, x), A'), ((0, y), B')] p ms)
    (hfo : St.ev ⟨n, tm, hp, up⟩ fo = some (.fn (.func g) first cap)) (hev : St.evs ⟨n, tm, hp, up⟩ args = some ps)
    (hA : look hp x = some A) (hB : look hp y = some B) (hq : quietBut [((0, x), A), ((0, y), B)] ms hp = true) (hps : p.says (0, ms) = false) (hd : d < n) (h : Ops P f R all l k ⟨n, (d, p) :: dropTm (0, ms) tm, (y, B') :: (x, A') :: hp, up⟩) :
    Op1 P f R all ⟨some d, .call ⟨.value fo, args.toArray, ats⟩, ty, pos, aft, gd⟩ l k ⟨n, tm, hp, up⟩ :=
  o_effv hsp hfo hev (by simp only [BkE, List.map_cons, List.map_nil]; rw [show rawF ⟨n, tm, hp, up⟩ (0, x) = some A from hA, show rawF ⟨n, tm, hp, up⟩ (0, y) = some B from hB]) hq hps hd rfl h
end Go.Ab
namespace Go.Ab
variable {P : Program} {f : FuncId} {R : Post} {k : List Item} {all : Array Oper} {l : List Oper}
variable {n : Nat} {tm : List (Nat × PV)} {hp : Hp} {up : Hf}
theorem o_ren (a b : Nat) {q : Blk} (hb : look hp a = some q) (hab : (!(a == b) && !q.says (0, b)) = true) (h : Ops P f R all l k ⟨n, renTm a b tm, (b, q) :: (a, .gone) :: renHp a b hp, up⟩) : Ops P f R all l k ⟨n, tm, hp, up⟩ :=
  fun is his => r_ren a b hb hab (h is his)
theorem o_cell_row (ms j x e kk : Nat) {cs : List PV} (hb : look hp ms = some (.box cs)) (hj : cs[j]? = some (.d (.lit nilS))) (hk : (decide (0 < kk) && !(ms == x)) = true) (hfr : (freeHp x hp && freeTm x tm) = true)
    (h : Ops P f R all l k ⟨n, tm, (ms, .box (cs.set j (.ref (0, x)))) :: (x, .row e kk []) :: hp, up⟩) : Ops P f R all l k ⟨n, tm, hp, up⟩ :=
  fun is his => r_cell_row ms j x e kk hb hj hk hfr (h is his)
end Go.Ab
namespace Go.Ab
set_option linter.unusedVariables false
set_option linter.unusedSimpArgs false
variable {P : Program} {ty : TypeId} {x : Operand}
theorem v_tostr {src dst e : TypeId} {ts td te : TI} {l : List Int} [hs : HasT P src ts] [hd' : HasT P dst td] [he : HasT P e te] (hks : ts.kind = .slice e) (hkd : td.kind = .str) (hke : te.kind = .int .u8) :
    Val P (.convert src dst x) ty [(x, .d (.slice (l.map fun n => [.lit (.int .u8 n)])))] [] (S (strOfNums l)) := fun d pos aft gd n tm hp up hd hx _ =>
  does_pure rfl hd fun β own ac w hrp => by
    have h1 := hrp.ev hx.1
    generalize hv : ac.eval x = v at h1
    refine ⟨.string (strOfNums l), ?_, PR.S _⟩
    cases h1 with
    | d _ _ h1 =>
      have key : (convert src dst v).run P w = .ok (.string (strOfNums l)) w := by
        generalize hxs : (l.map fun n => [D.lit (Value.int .u8 n)]) = xs at h1
        cases h1 with
        | nil a cap =>
          have : l = [] := List.map_eq_nil_iff.1 hxs
          subst this
          cases a with
          | none => exact run_convert_bytes_nil w src e (hs.slice hks) (he.int hke) 0 cap dst (hd'.str hkd)
          | some a =>
            rw [run_convert_bytes_string w src dst e _ 0 cap (hs.slice hks) (he.int hke) (hd'.str hkd), run_bytesToString w a 0 cap [] (by
              have := run_loadCells_list (P := P) w a [] (fun j v hj => by simp at hj)
              simpa using this)]
            rfl
        | slice _ g o cap k c hc hown hlt hk hcell hdd =>
          subst hxs
          rw [List.length_map]
          refine run_convert_bytes_arg w src e (hs.slice hks) (he.int hke) g o l.length cap l rfl (fun i hi => ?_) dst (hd'.str hkd)
          have hl1 : (l.map fun n => [D.lit (Value.int .u8 n)])[i]? = some [D.lit (.int .u8 (l.getD i 0))] := by
            rw [List.getElem?_map, List.getElem?_eq_getElem hi, List.getD, List.getElem?_eq_getElem hi]; rfl
          have hk1 : k = 1 := by
            have := hk _ (List.mem_of_getElem? hl1); simpa using this.symm
          subst hk1
          have h2 := hcell i (by simpa using hi) 0 (by omega)
          have h3 := hdd i _ hl1 0 _ (by simp; rfl)
          have h4 : c i 0 = .int .u8 (l.getD i 0) := by
            generalize c i 0 = u at h3
            cases h3 with
            | lit _ h => rfl
          rw [← h4]; simpa using h2.1
      simp only [execOp, hv]
      rw [Sem.run_bind, key]; rfl
end Go.Ab
/-! a new variable and a value handed back together -/
namespace Go.Ab
set_option linter.unusedVariables false
variable {P : Program} {f : FuncId} {R : Post} {k : List Item} {all : Array Oper} {l : List Oper} {n : Nat} {tm : List (Nat × PV)} {hp : Hp} {up : Hf} {d : Nat} {ty : TypeId} {pos : String} {aft : Array Edge} {gd : Option (Nat × Bool)} {s : St}
theorem res_newT {fn : Func} {s : St} {t u ms : Nat} {cs qs : List PV} {y : D} (h : fn.results = #[.tmp t, .tmp u]) (ht : look s.tm t = some (.ptr (0, ms) 0)) (hu : look s.tm u = some (.d y)) (hb : look s.hp ms = some (.box cs)) (hq : Blk.lift 1 (.box qs) = .box cs) : Res P fn s (.newT (.box qs) [.d y]) := fun β own a w hrep => by
  have hbk := hrep.heap.blk (0, ms) (.box cs) hb
  have hp := hrep.tm t _ ht
  have hy := (hrep.tm u _ hu).low (.d y) rfl
  have hap := new_apart hrep hb rfl
  refine ⟨.tuple #[a.tmps.getD t undef, a.tmps.getD u undef], own, by simp [results, h], Ext.refl _ _, hrep.heap.outer, ?_⟩
  generalize a.tmps.getD t undef = v at hp
  generalize a.tmps.getD u undef = v2 at hy
  generalize hv : β (0, ms) = u at hbk hap
  cases hp with
  | ptr _ _ g hg =>
    rw [hv] at hg
    subst hg
    refine .newT _ _ _ [v2] ?_ hap rfl ?_
    · rw [← hq] at hbk
      exact hbk.low
    · intro j p v hp hv
      match j with
      | 0 =>
        simp only [List.getElem?_cons_zero, Option.some.injEq] at hp hv
        subst hp hv; exact hy
      | j + 1 => simp at hp
theorem o_callnT {g : FuncId} {args : List Operand} {ps : List PV} {ats : Array TypeId} {R' : PostS} (hev : St.evs ⟨n, tm, hp, up⟩ args = some ps) (hsp : Spec P g ps (push hp up) R') (hd : d < n) (hfr : (freeHp d hp && freeTm d tm) = true)
    (hk : ∀ r H, R' r H → ∃ b y, r = .newT b [.d y] ∧ H = push hp up ∧ b.live = true ∧ b.says (0, d) = false ∧ Ops P f R all l k ⟨n, (d, .tup [pvOf b (0, d), .d y]) :: tm, (d, b) :: hp, up⟩) :
    Op1 P f R all ⟨some d, .call ⟨.value (.func g), args.toArray, ats⟩, ty, pos, aft, gd⟩ l k ⟨n, tm, hp, up⟩ := by
  refine o_enter (g := g) fun β own a w hr => ?_
  obtain ⟨vals, hrun, hargs⟩ := run_call (first := []) (cap := []) hr (fo := .func g) rfl hev hsp.plain (dst := some d) (ats := ats) (ty := ty) (pos := pos) (aft := aft) (gd := gd)
  refine ⟨vals.toArray, w, own, hrun, Ext.refl _ _, (hsp.run β own w vals hr.heap (by simpa using hargs)).mono fun e w' hfin => ?_⟩
  obtain ⟨v, r, H, own', he, hR, hrv, hheap, hext⟩ := hfin
  obtain ⟨b, y, rfl, rfl, hbl, hbs, hops⟩ := hk r H hR
  cases hrv with
  | newT _ _ x xs hbr hap hl hxs =>
    have hr1 : Rep ⟨n, tm, hp, up⟩ β own' a w' := ⟨hr.size, hr.defers, fun t q hq => (hr.tm t q hq).mono hext, hheap⟩
    have hbr' : BR (setβ β d x) w' own' x b := hbr.reβ (0, d) (setβ_ne β d x) hbs
    have hin := hr1.install (d := d) (v := x) (b := b) hfr (Ext.refl w' own') hheap.lt (fun m c hm hc _ g' hg' => ⟨rfl, (hheap.blk m c hm).block_lt hc hg', fun _ => hap m c hm hc g' hg'⟩) hbr'
    obtain ⟨z, rfl⟩ : ∃ z, xs = [z] := by
      match xs, hl with
      | [z], _ => exact ⟨z, rfl⟩
    have hz := hxs 0 (.d y) z rfl rfl
    refine ⟨_, setβ β d x, own', _, he, ?_, hext, outn_setβ _ _ _, hops⟩
    refine hin.put (dst := some d) (by simp [St.fits, hd]) (.tup [pvOf b (0, d), .d y] [x, z] rfl fun j p v hp hv => ?_)
    match j with
    | 0 =>
      simp only [List.getElem?_cons_zero, Option.some.injEq] at hp hv
      subst hp hv; exact pvOf_rel hbr' (setβ_same β d _)
    | 1 =>
      simp only [List.getElem?_cons_succ, List.getElem?_cons_zero, Option.some.injEq] at hp hv
      subst hp hv
      cases hz with | d _ _ h => exact .d _ _ h
    | j + 2 => simp at hp
end Go.Ab
namespace Go.Ab
set_option linter.unusedVariables false
set_option linter.unusedSimpArgs false
variable {P : Program}
theorem v_aindex {ty t e : TypeId} {ti te : TI} {x y : Operand} {kk' : IntKind} {a : Int} {m : Nm} {o N : Nat} [ht : HasT P t ti] [he : HasT P e te] (hk : ti.kind = .array N e) (h0 : 0 ≤ a) (h1 : a < N) (hs1 : te.size = 1) : Val P (.indexAddr t x y) ty [(x, .ptr m o), (y, I kk' a)] [] (.ptr m (o + a.toNat)) := fun d pos aft gd n tm hp up hd hx hb =>
  does_pure rfl hd fun β own ac w hr => by
    have h := hr.ev hx.1
    generalize hv : ac.eval x = v at h
    cases h with
    | ptr _ _ g hb =>
      refine ⟨_, ?_, .ptr _ _ g hb⟩
      simp only [execOp, hv, (hr.ev hx.2.1).lit]
      simp [Instr.indexAt, Instr.sureAddr, asIntOf, run_underlying (ht.array hk), h0, h1, he.sizeOf, hs1, addr_add]
end Go.Ab
namespace Go.Ab
set_option linter.unusedVariables false
set_option linter.unusedSimpArgs false
variable {P : Program} {f : FuncId} {R : Post} {k : List Item} {all : Array Oper} {l : List Oper} {n : Nat} {tm : List (Nat × PV)} {hp : Hp} {up : Hf}
theorem splice1 {α : Type} : ∀ (cs : List α) (j : Nat) (p : α), j < cs.length → splice cs j [p] = cs.set j p
  | [], j, p, h => by simp at h
  | c :: cs, 0, p, h => by cases cs <;> rfl
  | c :: cs, j + 1, p, h => by
    show c :: splice cs j [p] = _
    rw [splice1 cs j p (by simpa using h), List.set_cons_succ]
theorem saysL_set {m : Nm} {p : PV} (hp : p.says m = false) : ∀ (cs : List PV) (j : Nat), PV.saysL m cs = false → PV.saysL m (cs.set j p) = false
  | [], j, h => by simpa using h
  | c :: cs, 0, h => by
    simp only [PV.saysL, Bool.or_eq_false_iff] at h
    simp only [List.set_cons_zero, PV.saysL, Bool.or_eq_false_iff]
    exact ⟨hp, h.2⟩
  | c :: cs, j + 1, h => by
    simp only [PV.saysL, Bool.or_eq_false_iff] at h
    simp only [List.set_cons_succ, PV.saysL, Bool.or_eq_false_iff]
    exact ⟨h.1, saysL_set hp cs j h.2⟩
theorem frzL_data (m : Nm) (x : D) : ∀ ds : List D, frzL m x (ds.map .d) = ds.map .d
  | [] => rfl
  | d :: ds => by rw [List.map_cons, frzL, frzL_data m x ds]; rfl
theorem frzL_set (m : Nm) (x : D) : ∀ (ds : List D) (j : Nat), frzL m x ((ds.map .d).set j (.ref m)) = (ds.set j x).map .d
  | [], j => rfl
  | d :: ds, 0 => by
    rw [List.map_cons, List.set_cons_zero, frzL, frzL_data, List.set_cons_zero, List.map_cons]
    simp [PV.frz]
  | d :: ds, j + 1 => by
    rw [List.map_cons, List.set_cons_succ, frzL, frzL_set m x ds j, List.set_cons_succ, List.map_cons]; rfl
theorem renL_data (a b : Nat) : ∀ ds : List D, renL a b (ds.map .d) = ds.map .d
  | [] => rfl
  | d :: ds => by rw [List.map_cons, renL, renL_data a b ds]; rfl
theorem renL_set (a b : Nat) : ∀ (ds : List D) (j : Nat), renL a b ((ds.map .d).set j (.ref (0, a))) = (ds.map .d).set j (.ref (0, b))
  | [], j => rfl
  | d :: ds, 0 => by
    rw [List.map_cons, List.set_cons_zero, renL, renL_data, List.set_cons_zero]
    simp [PV.ren]
  | d :: ds, j + 1 => by
    rw [List.map_cons, List.set_cons_succ, renL, renL_set a b ds j, List.set_cons_succ]; rfl
/-- a box's cells said in other words -/
theorem r_cells (ms : Nat) {cs cs' : List PV} (hb : look hp ms = some (.box cs)) (he : cs = cs') (h : Run P f R k ⟨n, tm, (ms, .box cs') :: hp, up⟩) : Run P f R k ⟨n, tm, hp, up⟩ := by
  subst he
  refine Run.le (s := ⟨n, tm, (ms, .box cs) :: hp, up⟩) (fun β own a w hr => ⟨β, rfl, hr.size, hr.defers, hr.tm, ?_⟩) h
  have key : ∀ m b, lookF (push ((ms, .box cs) :: hp) up) m = some b → lookF (push hp up) m = some b := by
    rintro ⟨k, s⟩ b hq
    cases k with
    | zero =>
      replace hq : look ((ms, .box cs) :: hp) s = some b := hq
      show look hp s = some b
      simp only [look] at hq
      split at hq
      · rename_i hh; subst hh; rw [hb]; simpa using hq
      · exact hq
    | succ k => exact hq
  exact ⟨fun m b hb => hr.heap.blk m b (key m b hb), fun m1 m2 b1 b2 h1 h2 => hr.heap.inj m1 m2 b1 b2 (key _ _ h1) (key _ _ h2), hr.heap.lt⟩
theorem o_cells (ms : Nat) {cs cs' : List PV} (hb : look hp ms = some (.box cs)) (he : cs = cs') (h : Ops P f R all l k ⟨n, tm, (ms, .box cs') :: hp, up⟩) : Ops P f R all l k ⟨n, tm, hp, up⟩ := fun is his => r_cells ms hb he (h is his)
end Go.Ab
namespace Go.Ab
set_option linter.unusedVariables false
theorem okFree_of {s : St} : ∀ {es : List Eff} {fs : List Nat}, es.flatMap (·.free) = fs → (fs.all fun d => freeHp d s.hp && freeTm d s.tm) = true → okFree s es = true
  | [], fs, h, h2 => rfl
  | e :: r, fs, h, h2 => by
    subst h
    rw [List.flatMap_cons, List.all_append, Bool.and_eq_true] at h2
    rw [okFree, Bool.and_eq_true]
    exact ⟨h2.1, okFree_of rfl h2.2⟩
theorem okTail_of {ops : List Oper} {s : St} {es : List Eff} {fs : List Nat} (h : (decide (es.length ≤ ops.length) && ((ops.take es.length).length == es.length && okPairs (masks [] (ops.take es.length)) [] es && okBack (ops.take es.length) 0) && okBack ops 0 && tailOK (masks [] ops) es.length ops.length) = true) (hf : es.flatMap (·.free) = fs) (hf2 : (fs.all fun d => freeHp d s.hp && freeTm d s.tm) = true) : okTail ops s es = true := by
  have := okFree_of hf hf2
  simp only [okTail, okTrace, Bool.and_eq_true] at h ⊢
  obtain ⟨⟨⟨h1, h2⟩, h3⟩, h4⟩ := h
  exact ⟨⟨⟨h1, ⟨h2, this⟩⟩, h3⟩, h4⟩
end Go.Ab
