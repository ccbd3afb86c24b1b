/- The framework of this proof, fourth part: maps and function values. -/
import Derived.Test.YtonhfccmeammbaaGreatDoorFc
import Derived.MapKept
set_option linter.all false
set_option linter.unusedVariables false
set_option linter.unusedSimpArgs false
namespace Go.Ab
open Go.MapKept
set_option linter.unusedVariables false
set_option linter.unusedSimpArgs false
set_option linter.unusedSectionVars false

section
variable {α : Type} [DecidableEq α]
/-- an entry laid: the first one with this key is turned, or one more is put behind -/
def mput : List (α × D) → α → D → List (α × D)
  | [], a, v => [(a, v)]
  | (b, u) :: r, a, v => if b = a then (a, v) :: r else (b, u) :: mput r a v
def mget : List (α × D) → α → Option D
  | [], _ => none
  | (b, u) :: r, a => if b = a then some u else mget r a
theorem mput_new : ∀ (q : List (α × D)) (a : α) (v : D), (∀ x ∈ q, x.1 ≠ a) → mput q a v = q ++ [(a, v)]
  | [], a, v, _ => rfl
  | (b, u) :: r, a, v, h => by
    have h1 : b ≠ a := h (b, u) (by simp)
    rw [mput, if_neg h1, mput_new r a v fun x hx => h x (by simp [hx])]; rfl
theorem mput_old : ∀ (q : List (α × D)) (a : α) (v : D) (j : Nat) (x : α × D), q[j]? = some x → x.1 = a → (∀ i < j, ∀ y, q[i]? = some y → y.1 ≠ a) → mput q a v = q.set j (a, v)
  | [], a, v, j, x, h, _, _ => by simp at h
  | (b, u) :: r, a, v, 0, x, h, hx, _ => by
    simp at h; subst h
    rw [mput, if_pos hx]; rfl
  | (b, u) :: r, a, v, j + 1, x, h, hx, hn => by
    have h1 : b ≠ a := hn 0 (by omega) (b, u) rfl
    rw [mput, if_neg h1, mput_old r a v j x (by simpa using h) hx fun i hi y hy => hn (i + 1) (by omega) y (by simpa using hy)]; rfl
theorem mget_new : ∀ (q : List (α × D)) (a : α), (∀ x ∈ q, x.1 ≠ a) → mget q a = none
  | [], a, _ => rfl
  | (b, u) :: r, a, h => by
    have h1 : b ≠ a := h (b, u) (by simp)
    rw [mget, if_neg h1, mget_new r a fun x hx => h x (by simp [hx])]
theorem mget_old : ∀ (q : List (α × D)) (a : α) (j : Nat) (x : α × D), q[j]? = some x → x.1 = a → (∀ i < j, ∀ y, q[i]? = some y → y.1 ≠ a) → mget q a = some x.2
  | [], a, j, x, h, _, _ => by simp at h
  | (b, u) :: r, a, 0, x, h, hx, _ => by
    simp at h; subst h
    rw [mget, if_pos hx]
  | (b, u) :: r, a, j + 1, x, h, hx, hn => by
    have h1 : b ≠ a := hn 0 (by omega) (b, u) rfl
    rw [mget, if_neg h1, mget_old r a j x (by simpa using h) hx fun i hi y hy => hn (i + 1) (by omega) y (by simpa using hy)]

/-- keys of a kind -/
structure KeyK (d : TypeDesc) (g : α → Value) : Prop where
  key : ∀ a, IsKey d (g a)
  inj : ∀ a b, g a = g b → a = b
theorem keyInt (k : IntKind) : KeyK (.int k) (fun x : Int => Value.int k x) := ⟨fun a => rfl, fun a b h => by simpa using h⟩
theorem keyStr : KeyK .string (fun x : ByteArray => Value.string x) := ⟨fun a => trivial, fun a b h => by simpa using h⟩

theorem findNow_q {d : TypeDesc} {g : α → Value} (hk : KeyK d g) (a : α) : ∀ (q : List (α × D)) (l : List MapEntry) (i : Nat), q.length = l.length → (∀ (j : Nat) (x : α × D) (m : MapEntry), q[j]? = some x → l[j]? = some m → m.key = g x.1) →
    ((∀ x ∈ q, x.1 ≠ a) ∧ Instr.findNow d (g a) l i = some none) ∨
    ∃ (j : Nat) (x : α × D) (m : MapEntry), q[j]? = some x ∧ l[j]? = some m ∧ x.1 = a ∧ (∀ i' < j, ∀ y, q[i']? = some y → y.1 ≠ a) ∧ Instr.findNow d (g a) l i = some (some (i + j, m.val))
  | [], [], i, _, _ => .inl ⟨by simp, rfl⟩
  | [], _ :: _, i, h, _ => by simp at h
  | _ :: _, [], i, h, _ => by simp at h
  | x :: q, m :: l, i, hl, h => by
    have hm := h 0 x m rfl rfl
    obtain ⟨r, hr, hiff⟩ := sameNow_of_keys (hk.key a) (hk.key x.1)
    rw [← hm] at hr
    cases r with
    | true =>
      have e : a = x.1 := hk.inj _ _ (hiff.1 rfl)
      exact .inr ⟨0, x, m, rfl, rfl, e.symm, fun i' hi' => by omega, by simp [Instr.findNow, hr]⟩
    | false =>
      have hne : x.1 ≠ a := fun e => by rw [e] at hiff; have := hiff.2 rfl; cases this
      rcases findNow_q hk a q l (i + 1) (by simpa using hl) (fun j y z hy hz => h (j + 1) y z (by simpa using hy) (by simpa using hz)) with ⟨h1, h2⟩ | ⟨j, y, z, h1, h2, h3, h4, h5⟩
      · exact .inl ⟨by simpa [hne] using h1, by simp [Instr.findNow, hr, h2]⟩
      · refine .inr ⟨j + 1, y, z, by simpa using h1, by simpa using h2, h3, fun i' hi' w hw => ?_, by simp [Instr.findNow, hr, h5]; omega⟩
        cases i' with
        | zero => simp at hw; subst hw; exact hne
        | succ i' => exact h4 i' (by omega) w (by simpa using hw)
end

variable {P : Program} {f : FuncId} {R : Post} {k : List Item} {all : Array Oper} {o : Oper} {l : List Oper}
variable {n : Nat} {tm : List (Nat × PV)} {hp : Hp} {up : Hf} {d : Nat} {ty : TypeId} {pos : String} {aft : Array Edge} {gd : Option (Nat × Bool)} {op : Op} {p : PV}
variable {α : Type} [DecidableEq α] {g : α → Value} {kd : TypeDesc} {q : List (α × D)} {x y z : Operand} {t kt et : TypeId} {ti : TI}

theorem does_mkmap {t : TypeId} (hd : d < n) (hf : (freeHp d hp && freeTm d tm) = true) :
    Does P ⟨some d, .makeMap t none, ty, pos, aft, gd⟩ ⟨n, tm, hp, up⟩ ⟨n, (d, .ref (0, d)) :: tm, (d, .mp []) :: hp, up⟩ := by
  intro β own a w hrep
  have he := Ext.alloc w own (.map #[] 0)
  have hv : blockOf (.map (some w.heap.size)) = some w.heap.size := rfl
  have hin := hrep.install (d := d) hf he (fun g hg => by rcases hg with hg | rfl; exact Nat.lt_of_lt_of_le (hrep.heap.lt g hg) (by simp); simp) (v := .map (some w.heap.size)) (b := .mp [])
    (alloc_keep hrep.heap _ _ _ hv)
    (.mp w.heap.size 0 [] [] (.inr rfl) (alloc_new w _) rfl (fun j x m hx => by simp at hx) List.Pairwise.nil (fun m hm => by simp at hm))
  refine ⟨_, _, _, setβ β d (.map (some w.heap.size)), _, by simp [execOp, Instr.makeMap, Result.andThen]; rfl, .inl rfl, ?_, he, outn_setβ _ _ _⟩
  have := hin.put (dst := some d) (p := .ref (0, d)) (v := .map (some w.heap.size)) (by simp [St.fits, hd]) (by have := PR.ref (β := setβ β d (.map (some w.heap.size))) (w := w.alloc (.map #[] 0)) (own := fun g => own g ∨ g = w.heap.size) (0, d); rwa [setβ_same] at this)
  simpa [St.put] using this
theorem o_mkmap {t : TypeId} (hd : d < n) (hf : (freeHp d hp && freeTm d tm) = true) (h : Ops P f R all l k ⟨n, (d, .ref (0, d)) :: tm, (d, .mp []) :: hp, up⟩) :
    Op1 P f R all ⟨some d, .makeMap t none, ty, pos, aft, gd⟩ l k ⟨n, tm, hp, up⟩ := o_does (does_mkmap hd hf) h

/-- a map as the machine has it -/
theorem Rep.mp {s : St} {β : Nm → Value} {own : Nat → Prop} {a : Act} {w : World} (h : Rep s β own a w) {m : Nm} {es : List (Value × D)} (hb : lookF (push s.hp s.up) m = some (.mp es)) :
    ∃ (r clock : Nat) (cur : List MapEntry), β m = .map (some r) ∧ own r ∧ w.heap[r]? = some (.map cur.toArray clock) ∧ es.length = cur.length ∧
      (∀ (j : Nat) (x : Value × D) (m : MapEntry), es[j]? = some x → cur[j]? = some m → m.key = x.1 ∧ m.val.oneCell' = true ∧ DR w own x.2 m.val) ∧ (cur.map (·.born)).Pairwise (· < ·) ∧ ∀ m ∈ cur, m.born < clock := by
  have hbr := h.heap.blk m _ hb
  generalize hv : β m = v at hbr
  cases hbr with
  | mp r clock es cur ho hg hl hd hb hc => exact ⟨r, clock, cur, rfl, ho, hg, hl, hd, hb, hc⟩
theorem getD_get {q : List (α × D)} {j : Nat} {x : Value × D} (h : (q.map fun p => (g p.1, p.2))[j]? = some x) : ∃ y, q[j]? = some y ∧ x = (g y.1, y.2) := by
  rw [List.getElem?_map] at h
  cases hq : q[j]? with
  | none => rw [hq] at h; cases h
  | some y => rw [hq] at h; simp at h; exact ⟨y, rfl, h.symm⟩

/-- a value of one cell -/
def oneD : D → Bool
  | .agg _ => false
  | _ => true
theorem does_mput {s : St} {ms : Nat} {a : α} {v : D} {insert : Bool} (hm : P.underlying t = some (.map kt et)) (hkt : P.underlying kt = some kd) (hk : KeyK kd g) (hx : s.ev x = some (.ref (0, ms))) (hy : s.ev y = some (.d (.lit (g a)))) (hz : s.ev z = some (.d v)) (hok : oneD v = true)
    (hb : look s.hp ms = some (.mp (q.map fun p => (g p.1, p.2)))) :
    Does P ⟨none, if insert then .insert t x y z else .mapUpdate t x y z, ty, pos, aft, gd⟩ s (s.setB (0, ms) (.mp ((mput q a v).map fun p => (g p.1, p.2)))) := by
  intro β own ac w hr
  have hlook : lookF (push s.hp s.up) (0, ms) = some (.mp (q.map fun p => (g p.1, p.2))) := hb
  obtain ⟨r, clock, cur, hβ, ho, hg, hl, hd, hbn, hc⟩ := hr.mp hlook
  have ex := hr.ev hx
  have ey := (hr.ev hy).lit
  have ez := hr.ev hz
  generalize hzv : ac.eval z = zv at ez
  have hz1 : zv.oneCell' = true ∧ DR w own v zv := by
    cases ez with
    | d _ _ h =>
      refine ⟨?_, h⟩
      cases h with
      | lit _ h1 => exact h1
      | nil => rfl
      | slice => rfl
      | agg => simp [oneD] at hok
      | ifc => rfl
  have ex' : ac.eval x = .map (some r) := by
    generalize hxv : ac.eval x = xv at ex
    cases ex with
    | ref _ => exact hβ
  have hlt : r < w.heap.size := hr.heap.lt r ho
  have hkeys : ∀ (j : Nat) (x : α × D) (m : MapEntry), q[j]? = some x → cur[j]? = some m → m.key = g x.1 := fun j x m h1 h2 => (hd j (g x.1, x.2) m (by rw [List.getElem?_map, h1]; rfl) h2).1
  have hlen : q.length = cur.length := by simpa using hl
  -- the entries behind the call
  obtain ⟨cur', clock', hrun, hl', hd', hbn', hc'⟩ : ∃ (cur' : List MapEntry) (clock' : Nat), (Instr.mapUpdate t (.map (some r)) (g a) zv).run P w = .ok () { w with heap := w.heap.setIfInBounds r (.map cur'.toArray clock') } ∧
      (mput q a v).length = cur'.length ∧ (∀ (j : Nat) (x : α × D) (m : MapEntry), (mput q a v)[j]? = some x → cur'[j]? = some m → m.key = g x.1 ∧ m.val.oneCell' = true ∧ DR w own x.2 m.val) ∧ (cur'.map (·.born)).Pairwise (· < ·) ∧ ∀ m ∈ cur', m.born < clock' := by
    rcases findNow_q hk a q cur 0 hlen hkeys with ⟨h1, h2⟩ | ⟨j, xq, m, h1, h2, h3, h4, h5⟩
    · refine ⟨cur ++ [{ key := g a, val := zv, born := clock }], clock + 1, ?_, by rw [mput_new q a v h1]; simp [hlen], ?_, ?_, ?_⟩
      · simp [Instr.mapUpdate, run_underlying hm, Go.MapKept.run_getObj_map hg, run_checkKey hkt (hk.key a), run_findKey hkt h2, run_setObj_map _ hg, Result.andThen]
      · intro j x m hx hm
        rw [mput_new q a v h1] at hx
        by_cases hj : j < q.length
        · rw [List.getElem?_append_left hj] at hx
          rw [List.getElem?_append_left (by omega)] at hm
          exact hd j (g x.1, x.2) m (by rw [List.getElem?_map, hx]; rfl) hm
        · have hj2 := (List.getElem?_eq_some_iff.1 hx).1
          simp at hj2
          obtain rfl : j = q.length := by omega
          rw [List.getElem?_append_right (Nat.le_refl _)] at hx
          rw [List.getElem?_append_right (by omega), hlen] at hm
          simp at hx hm; subst hx; subst hm
          exact ⟨rfl, hz1.1, hz1.2⟩
      · rw [List.map_append, List.pairwise_append]
        refine ⟨hbn, by simp, fun u hu v hv => ?_⟩
        obtain ⟨m, hm, rfl⟩ := List.mem_map.1 hu
        simp at hv; subst hv
        exact hc m hm
      · intro m hm
        rcases List.mem_append.1 hm with hm | hm
        · have := hc m hm; omega
        · simp at hm; subst hm; simp
    · have hjl := (List.getElem?_eq_some_iff.1 h2).1
      have hmk : m.key = g a := by rw [hkeys j xq m h1 h2, h3]
      have hset : mput q a v = q.set j (a, v) := mput_old q a v j xq h1 h3 h4
      refine ⟨cur.set j { m with key := g a, val := zv }, clock, ?_, by rw [hset]; simp [hlen], ?_, ?_, ?_⟩
      · simp only [Nat.zero_add] at h5
        have hkk : ((cur[j]?).map (·.key)).getD (g a) = g a := by simp [h2, hmk]
        have hmod : cur.modify j (fun e => { key := g a, val := zv, born := e.born }) = cur.set j { m with key := g a, val := zv } := by
          apply List.ext_getElem?
          intro i
          rw [List.getElem?_modify, List.getElem?_set]
          by_cases hi : j = i
          · subst hi; simp [h2, hjl]; exact congrArg MapEntry.born (List.getElem?_eq_some_iff.1 h2).2
          · simp [hi]
        simp [Instr.mapUpdate, run_underlying hm, Go.MapKept.run_getObj_map hg, run_checkKey hkt (hk.key a), run_findKey hkt h5, run_setObj_map _ hg, Result.andThen, hkk, run_keyThatStays (hk.key a), hmod]
      · intro i x m' hx hm'
        rw [hset] at hx
        by_cases hi : i = j
        · subst hi
          rw [List.getElem?_set_self (by omega)] at hx
          rw [List.getElem?_set_self hjl] at hm'
          simp at hx hm'; subst hx; subst hm'
          exact ⟨rfl, hz1.1, hz1.2⟩
        · rw [List.getElem?_set_ne (Ne.symm hi)] at hx hm'
          exact hd i (g x.1, x.2) m' (by rw [List.getElem?_map, hx]; rfl) hm'
      · have : (cur.set j { m with key := g a, val := zv }).map (·.born) = cur.map (·.born) := by
          rw [List.map_set]
          apply List.ext_getElem?
          intro i
          rw [List.getElem?_set]
          by_cases hi : j = i
          · subst hi; simp [hjl]; exact congrArg MapEntry.born (List.getElem?_eq_some_iff.1 h2).2.symm
          · simp [hi]
        rw [this]; exact hbn
      · intro m' hm'
        rcases List.mem_or_eq_of_mem_set hm' with h | h
        · exact hc m' h
        · subst h; exact hc m (List.mem_of_getElem? h2)
  -- the world behind the call
  have he : Ext w own { w with heap := w.heap.setIfInBounds r (.map cur'.toArray clock') } own := by
    refine ⟨rfl, rfl, rfl, by simp, fun b hb hno => ?_, fun _ _ h => h⟩
    have : b ≠ r := fun e => hno (e ▸ ho)
    simp [Ne.symm this]
  have hbr : BR β { w with heap := w.heap.setIfInBounds r (.map cur'.toArray clock') } own (β (0, ms)) (atF (0, ms) (.mp ((mput q a v).map fun p => (g p.1, p.2)))) := by
    rw [hβ]
    refine .mp r clock' _ cur' ho (by simp [hlt]) (by simpa using hl') (fun j x m hx hm => ?_) hbn' hc'
    obtain ⟨y, hy, rfl⟩ := getD_get hx
    obtain ⟨e1, e2, e3⟩ := hd' j y m hy hm
    exact ⟨e1, e2, e3.mono he⟩
  have hheap := hr.heap.change (raw := .mp ((mput q a v).map fun p => (g p.1, p.2))) hlook rfl he (by simp) (fun g' hg' => by
    have : g' ≠ r := fun e => hg' (by rw [hβ, e]; rfl)
    simp [Ne.symm this]) hbr
  refine ⟨.skip, undef, _, β, own, ?_, .inr ⟨rfl, rfl⟩, ?_, he, rfl⟩
  · cases insert <;> simp only [execOp, ex', ey, hzv, Bool.false_eq_true, if_false, if_true] <;> simp [hrun]
  · refine ⟨?_, hr.defers, fun t q hq => ?_, ?_⟩
    · rw [(setB_raw s (0, ms) _).2.1]; exact hr.size
    · rw [(setB_raw s (0, ms) _).1] at hq; exact (hr.tm t q hq).mono he
    · rw [push_setB]; exact hheap
variable {a : α} {v : D}
theorem o_mput {ms : Nat} (hm : P.underlying t = some (.map kt et)) (hkt : P.underlying kt = some kd) (hk : KeyK kd g) (hx : St.ev ⟨n, tm, hp, up⟩ x = some (.ref (0, ms))) (hy : St.ev ⟨n, tm, hp, up⟩ y = some (.d (.lit (g a)))) (hz : St.ev ⟨n, tm, hp, up⟩ z = some (.d v)) (hok : oneD v = true)
    (hb : look hp ms = some (.mp (q.map fun p => (g p.1, p.2)))) (h : Ops P f R all l k ⟨n, tm, (ms, .mp ((mput q a v).map fun p => (g p.1, p.2))) :: hp, up⟩) :
    Op1 P f R all ⟨none, .mapUpdate t x y z, ty, pos, aft, gd⟩ l k ⟨n, tm, hp, up⟩ := o_does (does_mput (insert := false) hm hkt hk hx hy hz hok hb) h
theorem o_mins {ms : Nat} (hm : P.underlying t = some (.map kt et)) (hkt : P.underlying kt = some kd) (hk : KeyK kd g) (hx : St.ev ⟨n, tm, hp, up⟩ x = some (.ref (0, ms))) (hy : St.ev ⟨n, tm, hp, up⟩ y = some (.d (.lit (g a)))) (hz : St.ev ⟨n, tm, hp, up⟩ z = some (.d v)) (hok : oneD v = true)
    (hb : look hp ms = some (.mp (q.map fun p => (g p.1, p.2)))) (h : Ops P f R all l k ⟨n, tm, (ms, .mp ((mput q a v).map fun p => (g p.1, p.2))) :: hp, up⟩) :
    Op1 P f R all ⟨none, .insert t x y z, ty, pos, aft, gd⟩ l k ⟨n, tm, hp, up⟩ := o_does (does_mput (insert := true) hm hkt hk hx hy hz hok hb) h

theorem zero_of {t : TypeId} {z : Value} (h : (P.info? t).bind (·.zero) = some z) : ∀ w, (zeroValue t).run P w = .ok z w := by
  intro w
  cases hi : P.info? t with
  | none => rw [hi] at h; cases h
  | some i => rw [hi] at h; simp at h; simp [Go.zeroValue, typeInfo, hi, h]
/-- what is found in a map -/
theorem d_mget {ms : Nat} {z0 : Value} {y' : D} (hm : P.underlying t = some (.map kt et)) (hkt : P.underlying kt = some kd) (hk : KeyK kd g) (hz0 : ∀ w, (zeroValue et).run P w = .ok z0 w) (h1 : z0.oneCell' = true)
    (hx : St.ev ⟨n, tm, hp, up⟩ x = some (.ref (0, ms))) (hy : St.ev ⟨n, tm, hp, up⟩ y = some (.d (.lit (g a))))
    (hb : look hp ms = some (.mp (q.map fun p => (g p.1, p.2)))) (hr : (mget q a).getD (.lit z0) = y') (hd : d < n) :
    Does P ⟨some d, .lookup t x y false, ty, pos, aft, gd⟩ ⟨n, tm, hp, up⟩ ⟨n, (d, .d y') :: tm, hp, up⟩ := by
  refine does_pure rfl hd fun β own ac w hrep => ?_
  have hlook : lookF (push hp up) (0, ms) = some (.mp (q.map fun p => (g p.1, p.2))) := hb
  obtain ⟨r, clock, cur, hβ, ho, hg, hl, hdd, hbn, hc⟩ := hrep.mp hlook
  have ex := hrep.ev hx
  have ey := (hrep.ev hy).lit
  have ex' : ac.eval x = .map (some r) := by
    generalize hxv : ac.eval x = xv at ex
    cases ex with
    | ref _ => exact hβ
  have hkeys : ∀ (j : Nat) (x : α × D) (m : MapEntry), q[j]? = some x → cur[j]? = some m → m.key = g x.1 := fun j x m h1 h2 => (hdd j (g x.1, x.2) m (by rw [List.getElem?_map, h1]; rfl) h2).1
  have hlen : q.length = cur.length := by simpa using hl
  rcases findNow_q hk a q cur 0 hlen hkeys with ⟨h1', h2⟩ | ⟨j, xq, m, h1', h2, h3, h4, h5⟩
  · refine ⟨z0, ?_, ?_⟩
    · simp [execOp, ex', ey, Instr.lookup, run_underlying hm, Go.MapKept.run_getObj_map hg, run_checkKey hkt (hk.key a), run_findKey hkt h2, Result.andThen, hz0]
    · rw [mget_new q a h1'] at hr
      subst hr
      exact .d _ _ (.lit _ h1)
  · simp only [Nat.zero_add] at h5
    refine ⟨m.val, ?_, ?_⟩
    · simp [execOp, ex', ey, Instr.lookup, run_underlying hm, Go.MapKept.run_getObj_map hg, run_checkKey hkt (hk.key a), run_findKey hkt h5, Result.andThen]
    · rw [mget_old q a j xq h1' h3 h4] at hr
      subst hr
      exact .d _ _ (hdd j (g xq.1, xq.2) m (by rw [List.getElem?_map, h1']; rfl) h2).2.2
theorem d_mlen {ms : Nat} {es : List (Value × D)} (hm : P.underlying t = some (.map kt et)) (hx : St.ev ⟨n, tm, hp, up⟩ x = some (.ref (0, ms))) (hb : look hp ms = some (.mp es)) (hd : d < n) :
    Does P ⟨some d, .call ⟨.builtin .len, #[x], #[t]⟩, ty, pos, aft, gd⟩ ⟨n, tm, hp, up⟩ ⟨n, (d, I .i64 es.length) :: tm, hp, up⟩ :=
  does_pure rfl hd fun β own ac w hrep => ⟨.int .i64 es.length, by
    have hlook : lookF (push hp up) (0, ms) = some (.mp es) := hb
    obtain ⟨r, clock, cur, hβ, ho, hg, hl, hdd, hbn, hc⟩ := hrep.mp hlook
    have ex := hrep.ev hx
    have ex' : ac.eval x = .map (some r) := by
      generalize hxv : ac.eval x = xv at ex
      cases ex with
      | ref _ => exact hβ
    simp [execOp, resolve, invoke, builtin, Builtin.len_, run_underlying hm, ex', Go.MapKept.run_getObj_map hg, goInt, Result.andThen, hl], .I _ _⟩
end Go.Ab
namespace Go.Ab
set_option linter.unusedVariables false
set_option linter.unusedSimpArgs false

variable {P : Program} {f : FuncId} {R : Post} {k : List Item} {all : Array Oper} {o : Oper} {l : List Oper}
variable {n : Nat} {tm : List (Nat × PV)} {hp : Hp} {up : Hf} {d : Nat} {ty : TypeId} {pos : String} {aft : Array Edge} {gd : Option (Nat × Bool)} {op : Op} {p : PV}

theorem evs_both {s : St} : ∀ {xs ys : List (Operand × PV)}, Evs s xs → Evs s ys → Evs s (xs ++ ys)
  | [], ys, _, h => h
  | (x, p) :: r, ys, h, h' => ⟨h.1, evs_both h.2 h'⟩
theorem evE_two {s : St} {xs ys : List Operand} {ps qs : List PV} (h : s.evs xs = some ps) (h' : s.evs ys = some qs) : EvE s (xs.zip ps ++ ys.zip qs) :=
  evs_eq (evs_both (evs_list h).1 (evs_list h').1)
theorem evs_len {s : St} : ∀ {xs : List Operand} {ps : List PV}, s.evs xs = some ps → xs.length = ps.length
  | [], ps, h => by simp [St.evs] at h; subst h; rfl
  | x :: r, ps, h => by
    simp only [St.evs] at h
    cases hx : s.ev x with
    | none => rw [hx] at h; cases h
    | some p =>
      rw [hx] at h
      cases hr : s.evs r with
      | none => rw [hr] at h; cases h
      | some q => rw [hr] at h; simp at h; subst h; simp [evs_len hr]
theorem evs_app {s : St} : ∀ {xs ys : List (Operand × PV)}, Evs s (xs ++ ys) → Evs s xs ∧ Evs s ys
  | [], ys, h => ⟨trivial, h⟩
  | (x, p) :: r, ys, h => by
    have := evs_app (xs := r) h.2
    exact ⟨⟨h.1, this.1⟩, this.2⟩
theorem zip_args {β : Nm → Value} {own : Nat → Prop} {a : Act} {w : World} {s : St} (hr : Rep s β own a w) : ∀ {xs : List Operand} {ps : List PV}, xs.length = ps.length → Evs s (xs.zip ps) →
    ∀ (j : Nat) (p : PV) (v : Value), ps[j]? = some p → (xs.map a.eval)[j]? = some v → PR β w own p v
  | [], [], _, _, j, p, v, hp, _ => by simp at hp
  | [], _ :: _, h, _, _, _, _, _, _ => by simp at h
  | _ :: _, [], h, _, _, _, _, _, _ => by simp at h
  | x :: xs, q :: ps, hl, h, j, p, v, hp, hv => by
    cases j with
    | zero => simp at hp hv; subst hp; subst hv; exact hr.ev h.1
    | succ j => exact zip_args hr (by simpa using hl) h.2 j p v (by simpa using hp) (by simpa using hv)

/-- a function value is made -/
theorem v_mkfn {fn : Fn} {lf lc : List Operand} {pf pc : List PV} (h1 : lf.length = pf.length) (h2 : lc.length = pc.length) : Val P (.makeFunc fn lf.toArray lc.toArray) ty (lf.zip pf ++ lc.zip pc) [] (.fn fn pf pc) :=
  fun d pos aft gd n tm hp up hd hx hb => does_pure rfl hd fun β own a w hr => by
    obtain ⟨e1, e2⟩ := evs_app hx
    refine ⟨.func fn (lf.map a.eval).toArray (lc.map a.eval).toArray, ?_, .fn fn pf pc _ _ (by simp [h1]) (by simp [h2]) (zip_args hr h1 e1) (zip_args hr h2 e2)⟩
    simp [execOp, Instr.makeFunc]
theorem o_mkfn {fn : Fn} {lf lc : List Operand} {pf pc : List PV} (h1 : St.evs ⟨n, tm, hp, up⟩ lf = some pf) (h2 : St.evs ⟨n, tm, hp, up⟩ lc = some pc) (hd : d < n) (h : Ops P f R all l k ⟨n, (d, .fn fn pf pc) :: tm, hp, up⟩) :
    Op1 P f R all ⟨some d, .makeFunc fn lf.toArray lc.toArray, ty, pos, aft, gd⟩ l k ⟨n, tm, hp, up⟩ :=
  o_val (v_mkfn (evs_len h1) (evs_len h2)) (evE_two h1 h2) rfl hd h
theorem t_mkfn {id : Nat} {ops : List Oper} {s0 : St} {done : List Eff} {gr : List (Nat × PV)} {fn : Fn} {lf lc : List Operand} {pf pc : List PV} (hg : GOK ops.toArray gd gr ⟨n, tm, hp, up⟩) (h1 : St.evs ⟨n, tm, hp, up⟩ lf = some pf) (h2 : St.evs ⟨n, tm, hp, up⟩ lc = some pc) (hd : d < n)
    (h : Tr P f R id ops k s0 (done ++ [⟨gr ++ rd (lf.zip pf ++ lc.zip pc), [], [], [(d, .fn fn pf pc)], []⟩]) ⟨n, (d, .fn fn pf pc) :: tm, hp, up⟩ l) :
    Tr P f R id ops k s0 done ⟨n, tm, hp, up⟩ (⟨some d, .makeFunc fn lf.toArray lc.toArray, ty, pos, aft, gd⟩ :: l) :=
  t_val (v_mkfn (evs_len h1) (evs_len h2)) hg (evE_two h1 h2) rfl hd h

/-- a call of a function value that changes nothing -/
theorem o_fnv {g : FuncId} {fo : Operand} {args : List Operand} {first cap ps : List PV} {ats : Array TypeId} {bs : List (Nm × Blk)} (hsp : Eff1 P g (first ++ ps ++ cap) bs [] p) (hfo : St.ev ⟨n, tm, hp, up⟩ fo = some (.fn (.func g) first cap)) (hev : St.evs ⟨n, tm, hp, up⟩ args = some ps)
    (hb : BkE ⟨n, tm, hp, up⟩ bs) (hd : d < n) (h : Ops P f R all l k ⟨n, (d, p) :: tm, hp, up⟩) :
    Op1 P f R all ⟨some d, .call ⟨.value fo, args.toArray, ats⟩, ty, pos, aft, gd⟩ l k ⟨n, tm, hp, up⟩ :=
  o_call hfo hev (hsp (push hp up) fun q hq => bks_all (bkE hb) q hq) hd fun r H ⟨h1, h2⟩ => ⟨p, hp, up, h1, h2, h⟩
theorem t_fnv {id : Nat} {ops : List Oper} {s0 : St} {done : List Eff} {gr : List (Nat × PV)} {g : FuncId} {fo : Operand} {args : List Operand} {first cap ps : List PV} {ats : Array TypeId} {bs : List (Nm × Blk)} (hsp : Eff1 P g (first ++ ps ++ cap) bs [] p) (hg : GOK ops.toArray gd gr ⟨n, tm, hp, up⟩)
    (hfo : St.ev ⟨n, tm, hp, up⟩ fo = some (.fn (.func g) first cap)) (hev : St.evs ⟨n, tm, hp, up⟩ args = some ps) (hb : BkE ⟨n, tm, hp, up⟩ bs) (hd : d < n)
    (h : Tr P f R id ops k s0 (done ++ [⟨gr ++ rd ((fo, .fn (.func g) first cap) :: args.zip ps), bs, [], [(d, p)], []⟩]) ⟨n, (d, p) :: tm, hp, up⟩ l) :
    Tr P f R id ops k s0 done ⟨n, tm, hp, up⟩ (⟨some d, .call ⟨.value fo, args.toArray, ats⟩, ty, pos, aft, gd⟩ :: l) := by
  replace hb := bkE hb
  obtain ⟨hz1, hz2⟩ := evs_list hev
  have hz0 : Evs ⟨n, tm, hp, up⟩ ((fo, .fn (.func g) first cap) :: args.zip ps) := ⟨hfo, hz1⟩
  refine t_step (e := ⟨gr ++ rd ((fo, .fn (.func g) first cap) :: args.zip ps), bs, [], [(d, p)], []⟩) (fun i hi s1 hn hs1 => ?_) ⟨fun q hq => ?_, bks_all hb, by simp⟩ rfl h
  · have h1 : Evs s1 ((fo, .fn (.func g) first cap) :: args.zip ps) := evs_any hz0 fun q hq => hs1.ins q (by simp [hq])
    have hev1 : s1.evs args = some ps := hz2 s1 h1.2
    refine stepI_call hi (fun β own a w hr => hg.wanted (fun q hq => hs1.ins q (by simp [hq])) rfl hr) h1.1 hev1 ?_ (by rw [hn]; exact hd)
    simpa using hsp (push s1.hp s1.up) fun q hq => hs1.pre q hq
  · simp only [List.mem_append] at hq
    rcases hq with hq | hq
    · exact hg.agrees q hq
    · exact rd_agrees hz0 q hq
/-- a call of a named function that reads some blocks and changes nothing -/
theorem o_effk {g : FuncId} {args : List Operand} {ps : List PV} {ats : Array TypeId} {bs : List (Nm × Blk)} (hsp : Eff1 P g ps bs [] p) (hev : St.evs ⟨n, tm, hp, up⟩ args = some ps)
    (hb : BkE ⟨n, tm, hp, up⟩ bs) (hd : d < n) (h : Ops P f R all l k ⟨n, (d, p) :: tm, hp, up⟩) :
    Op1 P f R all ⟨some d, .call ⟨.value (.func g), args.toArray, ats⟩, ty, pos, aft, gd⟩ l k ⟨n, tm, hp, up⟩ :=
  o_fnv (first := []) (cap := []) (by simpa using hsp) rfl hev hb hd h
end Go.Ab
namespace Go.Ab
set_option linter.unusedVariables false
set_option linter.unusedSimpArgs false

variable {P : Program} {f : FuncId} {R : Post} {k : List Item} {all : Array Oper} {o : Oper} {l : List Oper}
variable {n : Nat} {tm : List (Nat × PV)} {hp : Hp} {up : Hf} {d : Nat} {ty : TypeId} {pos : String} {aft : Array Edge} {gd : Option (Nat × Bool)} {op : Op} {p : PV}

/-- the value of a named function -/
abbrev fnD (g : FuncId) : D := .lit (.func (.func g) #[] #[])

/-- a function value without captured values is data -/
def asF : PV → PV
  | .fn g [] [] => .d (.lit (.func g #[] #[]))
  | p => p
theorem asF_rel {β : Nm → Value} {w : World} {own : Nat → Prop} {p : PV} {v : Value} (h : PR β w own p v) : PR β w own (asF p) v := by
  unfold asF
  split
  · cases h with
    | fn _ _ _ fv cv hl hl' hd hd' =>
      have e1 : fv = [] := by simpa using hl.symm
      have e2 : cv = [] := by simpa using hl'.symm
      subst e1; subst e2
      exact .d _ _ (.lit _ rfl)
  · exact h

theorem run_fnl {s : St} {β : Nm → Value} {own : Nat → Prop} {a : Act} {w : World} (hr : Rep s β own a w) {g : FuncId} {fo : Operand} {args : List Operand} {ps : List PV} {ats : Array TypeId} (hfo : s.ev fo = some (.d (fnD g))) (hev : s.evs args = some ps) (hp : Plain P g)
    {dst : Option Tmp} : ∃ vals : List Value, (execOp a.eval ⟨dst, .call ⟨.value fo, args.toArray, ats⟩, ty, pos, aft, gd⟩).run P w = .ok (.enter g vals.toArray) w ∧ ArgsR β w own ps vals := by
  obtain ⟨fn, hfn, hname, hbody⟩ := hp
  have h := hr.ev hfo
  have hv : a.eval fo = .func (.func g) #[] #[] := h.lit
  refine ⟨args.map a.eval, ?_, hr.evs hev⟩
  have hb : ∃ c, fn.body = some c := by cases hc : fn.body with | none => rw [hc] at hbody; cases hbody | some c => exact ⟨c, rfl⟩
  obtain ⟨c, hb⟩ := hb
  have hname' : ¬ (fn.name = "runtime.NumGoroutine") := by simpa using hname
  simp [execOp, resolve, hv, Deferred.ofValue, invoke, callFunc, hfn, hname', hb]

theorem o_fnl {g : FuncId} {fo : Operand} {args : List Operand} {ps : List PV} {ats : Array TypeId} (hfo : St.ev ⟨n, tm, hp, up⟩ fo = some (.d (fnD g))) (hsp : PureF P g ps p) (hev : St.evs ⟨n, tm, hp, up⟩ args = some ps) (hd : d < n)
    (h : Ops P f R all l k ⟨n, (d, p) :: tm, hp, up⟩) : Op1 P f R all ⟨some d, .call ⟨.value fo, args.toArray, ats⟩, ty, pos, aft, gd⟩ l k ⟨n, tm, hp, up⟩ := by
  have hsp := hsp (push hp up)
  refine o_enter (g := g) fun β own a w hr => ?_
  obtain ⟨vals, hrun, hargs⟩ := run_fnl hr hfo hev hsp.plain (dst := some d) (ats := ats) (ty := ty) (pos := pos) (aft := aft) (gd := gd)
  refine ⟨vals.toArray, w, own, hrun, Ext.refl _ _, (hsp.run β own w vals hr.heap hargs).mono fun e w' hfin => ?_⟩
  obtain ⟨v, r, H, own', he, ⟨rfl, rfl⟩, hrv, hheap, hext⟩ := hfin
  cases hrv with
  | v _ _ hpv =>
    refine ⟨v, β, own', _, he, ?_, hext, rfl, h⟩
    have hr' : Rep ⟨n, tm, hp, up⟩ β own' a w' := ⟨hr.size, hr.defers, fun t q hq => (hr.tm t q hq).mono hext, hheap⟩
    exact hr'.put (dst := some d) (by simp [St.fits, hd]) hpv

theorem stepI_fnl {i : Nat} {s : St} {g : FuncId} {fo : Operand} {args : List Operand} {ps : List PV} {ats : Array TypeId} (ho : all[i]? = some ⟨some d, .call ⟨.value fo, args.toArray, ats⟩, ty, pos, aft, gd⟩)
    (hw : ∀ β own a w, Rep s β own a w → Region.wanted ⟨some d, .call ⟨.value fo, args.toArray, ats⟩, ty, pos, aft, gd⟩ (yielded all a.tmps) = true)
    (hfo : s.ev fo = some (.d (fnD g))) (hev : s.evs args = some ps) (hsp : PureF P g ps p) (hd : d < s.n) :
    StepI P f R all k i s (s.app ⟨[], [], [], [(d, p)], []⟩) := by
  intro is h β own a w hrep b hb hk cs
  have hsp := hsp (push s.hp s.up)
  obtain ⟨vals, hrun, hargs⟩ := run_fnl hrep hfo hev hsp.plain (dst := some d) (ats := ats) (ty := ty) (pos := pos) (aft := aft) (gd := gd)
  obtain ⟨e, w', fr, ⟨v, r, H, own', rfl, ⟨rfl, rfl⟩, hrv, hheap, hext⟩, hsteps, _, hleave⟩ := hsp.run β own w vals hrep.heap hargs (b.at a (.inRegion all (i :: is) :: k) :: cs)
  cases hrv with
  | v _ _ hpv =>
    have hr' : Rep s β own' a w' := ⟨hrep.size, hrep.defers, fun t q hq => (hrep.tm t q hq).mono hext, hheap⟩
    have hr2 := hr'.put (dst := some d) (p := p) (v := v) (by simp [St.fits, hd]) hpv
    obtain ⟨e2, w2, fr2, hfin, hcomes, hfn, hl⟩ := h β own' _ w' hr2 b hb hk cs
    refine ⟨e2, w2, fr2, hfin.ext hext, ?_, hfn, hl⟩
    have hgo := stepG_op (P := P) (b := b) (k := k) (cs := cs) (w := w) (rest := is) ho (hw β own a w hrep)
    have hfin : ∀ v, (b.at a (.inRegion all (i :: is) :: k)).finish v = b.at (a.put (some d) v) (.inRegion all is :: k) := by
      intro v; rw [Frame.finish_at, ho]; rfl
    have henter : step P (lone (b.at a (.inRegion all (i :: is) :: k)) cs w) = .next (lone (Frame.enter P g vals.toArray .normal) (b.at a (.inRegion all (i :: is) :: k) :: cs) w) :=
      step_lone_go (by rw [hgo]; simp [stepG.apply, hrun, Frame.at])
    exact hcomes.of_steps (.head henter (Steps.trans hsteps (.one (by rw [← hfin]; exact step_leave_returned hleave))))

theorem t_fnl {id : Nat} {ops : List Oper} {s0 : St} {done : List Eff} {gr : List (Nat × PV)} {g : FuncId} {fo : Operand} {args : List Operand} {ps : List PV} {ats : Array TypeId} (hg : GOK ops.toArray gd gr ⟨n, tm, hp, up⟩)
    (hfo : St.ev ⟨n, tm, hp, up⟩ fo = some (.d (fnD g))) (hsp : PureF P g ps p) (hev : St.evs ⟨n, tm, hp, up⟩ args = some ps) (hd : d < n)
    (h : Tr P f R id ops k s0 (done ++ [⟨gr ++ rd ((fo, .d (fnD g)) :: args.zip ps), [], [], [(d, p)], []⟩]) ⟨n, (d, p) :: tm, hp, up⟩ l) :
    Tr P f R id ops k s0 done ⟨n, tm, hp, up⟩ (⟨some d, .call ⟨.value fo, args.toArray, ats⟩, ty, pos, aft, gd⟩ :: l) := by
  obtain ⟨hz1, hz2⟩ := evs_list hev
  have hz0 : Evs ⟨n, tm, hp, up⟩ ((fo, .d (fnD g)) :: args.zip ps) := ⟨hfo, hz1⟩
  refine t_step (e := ⟨gr ++ rd ((fo, .d (fnD g)) :: args.zip ps), [], [], [(d, p)], []⟩) (fun i hi s1 hn hs1 => ?_) ⟨fun q hq => ?_, by simp, by simp⟩ rfl h
  · have h1 : Evs s1 ((fo, .d (fnD g)) :: args.zip ps) := evs_any hz0 fun q hq => hs1.ins q (by simp [hq])
    exact stepI_fnl hi (fun β own a w hr => hg.wanted (fun q hq => hs1.ins q (by simp [hq])) rfl hr) h1.1 (hz2 s1 h1.2) hsp (by rw [hn]; exact hd)
  · simp only [List.mem_append] at hq
    rcases hq with hq | hq
    · exact hg.agrees q hq
    · exact rd_agrees hz0 q hq

theorem d_lit_fns {t e : TypeId} {ti te : TI} [ht : HasT P t ti] [he : HasT P e te] {len : Nat} {l : List (Nat × Operand)} {qs : List (Nat × List PV)} {cs : List PV} {ds : List D} {xs : List (List D)} (hq : St.parts ⟨n, tm, hp, up⟩ l = some qs) (hok : St.okParts ⟨n, tm, hp, up⟩ l = true)
    (hf : fillP (fun i => some (i * te.size, te.size)) (zerosP te.zero (len * te.size)) qs = some cs) (hm : allD (cs.map asF) = some ds) (hxs : chunk te.size len ds = xs) (hk : ti.kind = .slice e)
    (hz : litOK te len = true) (hd : d < n) :
    Does P ⟨some d, .buildSlice t len l.toArray, ty, pos, aft, gd⟩ ⟨n, tm, hp, up⟩ ⟨n, (d, .d (.slice xs)) :: tm, hp, up⟩ :=
  does_val rfl hd fun β own a w hr => by
    simp only [litOK, Bool.and_eq_true, beq_iff_eq, bne_iff_ne, decide_eq_true_eq] at hz
    obtain ⟨⟨⟨z1, z2⟩, z3⟩, z4⟩ := hz
    obtain ⟨h1, h2⟩ := hr.parts l qs hq hok
    have hl : (l.toArray.map fun x => (x.1, a.eval x.2)).toList = l.map fun x => (x.1, a.eval x.2) := by simp
    obtain ⟨vs, hrun, hcr, hvl⟩ := run_buildSliceP (P := P) ht he hk z1 z2 z3 z4 (β := β) (w := w) (own := own) (l.toArray.map fun x => (x.1, a.eval x.2)) qs (by rw [hl]; exact h1) (by rw [hl]; exact h2) hf
    have hcr' : CR β w own (cs.map asF) vs := ⟨by simpa using hcr.1, hcr.2.1, fun j x v hx hv => by
      rw [List.getElem?_map] at hx
      cases hc : cs[j]? with
      | none => rw [hc] at hx; cases hx
      | some c => rw [hc] at hx; simp at hx; subst hx; exact asF_rel (hcr.2.2 j c v hc hv)⟩
    replace hcr := allD_rel hcr' hm
    subst hxs
    refine ⟨_, _, ?_, (RowKit.Below.refl _ _).alloc (Nat.le_refl _) _, .d _ _ (chunk_DR hr.heap.lt hcr hvl e)⟩
    simp only [execOp]
    have : (Array.map (fun x : Nat × Operand => match x with | (i, x) => (i, a.eval x)) l.toArray) = l.toArray.map fun x => (x.1, a.eval x.2) := rfl
    rw [this, Sem.run_bind, hrun]
    rfl
theorem o_litf {t e : TypeId} {ti te : TI} {lp : List (Nat × Operand)} {ps : List PV} {qs : List (Nat × List PV)} {cs : List PV} {len : Nat} {ds : List D} {ys : List (List D)} [ht : HasT P t ti] [he : HasT P e te] (hk : ti.kind = .slice e) (hev : St.evs ⟨n, tm, hp, up⟩ (lp.map (·.2)) = some ps) (hq : partCells lp ps = some qs) (hn : noRefs ps = true) (hf : fillP (fun i => some (i * te.size, te.size)) (zerosP te.zero (len * te.size)) qs = some cs)
    (hm : allD (cs.map asF) = some ds) (hxs : chunk te.size len ds = ys) (hz : litOK te len = true) (hd : d < n) (h : Ops P f R all l k ⟨n, (d, .d (.slice ys)) :: tm, hp, up⟩) :
    Op1 P f R all ⟨some d, .buildSlice t len lp.toArray, ty, pos, aft, gd⟩ l k ⟨n, tm, hp, up⟩ :=
  let ⟨h1, h2⟩ := parts_of (evE (partEvs_of hev)) hq hn
  o_does (d_lit_fns h1 h2 hf hm hxs hk hz hd) h
end Go.Ab
