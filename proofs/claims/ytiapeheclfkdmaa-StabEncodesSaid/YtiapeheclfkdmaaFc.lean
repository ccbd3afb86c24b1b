/- The framework of this proof, third part: strings, rows, calls with one of several results. -/
import Derived.Test.YtiapeheclfkdmaaFb
import Derived.Laws.IdiomStrings
import Derived.Laws.CopyRow
import Derived.Laws.AppendOwn
import Derived.Laws.RangeString
import Derived.Laws.RangeAny
set_option linter.all false
set_option linter.unusedVariables false
set_option linter.unusedSimpArgs false
namespace Go.Ab
set_option linter.unusedVariables false
set_option linter.unusedSimpArgs false

variable {P : Program} {f : FuncId} {R : Post} {k : List Item} {all : Array Oper} {o : Oper} {l : List Oper}
variable {n : Nat} {tm : List (Nat × PV)} {hp : Hp} {up : Hf} {d : Nat} {ty : TypeId} {pos : String} {aft : Array Edge} {gd : Option (Nat × Bool)} {op : Op} {p : PV}

def pn : PV → PV
  | .d x => .d (nrm x)
  | .agg cs => match allD cs with
    | some ds => .d (.agg ds)
    | none => .agg cs
  | p => p
theorem PR.pn {β : Nm → Value} {w : World} {own : Nat → Prop} {p : PV} {v : Value} (h : PR β w own p v) : PR β w own (pn p) v := by
  cases h with
  | d x v h => exact .d _ _ h.nrm
  | agg cs vs hl h1 hd =>
    simp only [Ab.pn]
    cases hq : allD cs with
    | none => exact .agg cs vs hl h1 hd
    | some ds =>
      have := allD_rel ⟨hl, h1, hd⟩ hq
      exact .d _ _ (.agg _ _ this.data.1 h1 this.data.2)
  | any v => exact .any v
  | ptr n off g h => exact .ptr n off g h
  | eptr cs g o c h1 h2 h3 h4 => exact .eptr cs g o c h1 h2 h3 h4
  | ref n => exact .ref n
  | rptr n k i off g len cap h => exact .rptr n k i off g len cap h
  | rsub n k lo len L cap a h hl hc => exact .rsub n k lo len L cap a h hl hc
  | al a b h v => exact .al a b h v
  | tup ps vs hl hd => exact .tup ps vs hl hd
  | fn f first cap fv cv hl hl' hd hd' => exact .fn f first cap fv cv hl hl' hd hd'
  | yl n L h => exact .yl n L h
  | full xs a h => exact .full xs a h
theorem ArgsR.pn {β : Nm → Value} {w : World} {own : Nat → Prop} {ps : List PV} {vs : List Value} (h : ArgsR β w own ps vs) : ArgsR β w own (ps.map pn) vs :=
  ⟨by simpa using h.1, fun j p v hp hv => by
    rw [List.getElem?_map] at hp
    cases hq : ps[j]? with
    | none => rw [hq] at hp; cases hp
    | some q => rw [hq] at hp; simp at hp; subst hp; exact (h.2 j q v hq hv).pn⟩
theorem Spec.pn {g : FuncId} {ps : List PV} {H : Hf} {R : PostS} (h : Spec P g (ps.map pn) H R) : Spec P g ps H R := ⟨h.plain, fun β own w vals hh ha => h.run β own w vals hh ha.pn⟩
theorem PureF.pn {g : FuncId} {ps : List PV} (h : PureF P g (ps.map pn) p) : PureF P g ps p := fun H => (h H).pn
theorem Eff1.pn {g : FuncId} {ps : List PV} {bs hs : List (Nm × Blk)} (h : Eff1 P g (ps.map pn) bs hs p) : Eff1 P g ps bs hs p := fun H hH => (h H hH).pn

/-- the arguments of a call as its contract has them -/
def St.evc (s : St) (args : List Operand) : Option (List PV) := match s.evs args with
  | some ps => some (ps.map Ab.pn)
  | none => none
theorem evc_some {s : St} {args : List Operand} {ps : List PV} (h : s.evc args = some ps) : s.evs args = some ((s.evs args).getD []) ∧ ((s.evs args).getD []).map pn = ps := by
  simp only [St.evc] at h
  cases hq : s.evs args with
  | none => rw [hq] at h; cases h
  | some q => rw [hq] at h; simp at h; exact ⟨rfl, h⟩

theorem o_fn {g : FuncId} {args : List Operand} {ps : List PV} {ats : Array TypeId} (hsp : PureF P g ps p) (hev : St.evc ⟨n, tm, hp, up⟩ args = some ps) (hd : d < n) (hk : Ops P f R all l k ⟨n, (d, p) :: tm, hp, up⟩) :
    Op1 P f R all ⟨some d, .call ⟨.value (.func g), args.toArray, ats⟩, ty, pos, aft, gd⟩ l k ⟨n, tm, hp, up⟩ := by
  obtain ⟨h1, h2⟩ := evc_some hev
  exact o_fun (PureF.pn (by rw [h2]; exact hsp)) h1 hd hk
theorem t_fn {id : Nat} {ops : List Oper} {s0 : St} {done : List Eff} {g : FuncId} {args : List Operand} {ps : List PV} {ats : Array TypeId} {gr : List (Nat × PV)} (hsp : PureF P g ps p) (hg : GOK ops.toArray gd gr ⟨n, tm, hp, up⟩) (hev : St.evc ⟨n, tm, hp, up⟩ args = some ps) (hd : d < n)
    (h : Tr P f R id ops k s0 (done ++ [⟨gr ++ rd (args.zip ((St.evs ⟨n, tm, hp, up⟩ args).getD [])), [], [], [(d, p)], []⟩]) ⟨n, (d, p) :: tm, hp, up⟩ l) : Tr P f R id ops k s0 done ⟨n, tm, hp, up⟩ (⟨some d, .call ⟨.value (.func g), args.toArray, ats⟩, ty, pos, aft, gd⟩ :: l) := by
  obtain ⟨h1, h2⟩ := evc_some hev
  exact t_fun (PureF.pn (by rw [h2]; exact hsp)) hg h1 hd h
end Go.Ab
namespace Go.Ab
set_option linter.unusedVariables false
set_option linter.unusedSimpArgs false
set_option linter.unnecessarySimpa false

variable {P : Program} {f : FuncId} {R : Post} {k : List Item} {all : Array Oper} {o : Oper} {l : List Oper}
variable {n : Nat} {tm : List (Nat × PV)} {hp : Hp} {up : Hf} {d : Nat} {ty : TypeId} {pos : String} {aft : Array Edge} {gd : Option (Nat × Bool)} {op : Op} {p : PV}

/-! strings -/
section
variable {x y z : Operand} {tx ty' t e : TypeId} {ti te : TI} {a b s : ByteArray} {kk k' : IntKind} {i j : Int}
theorem v_sgeq : Val P (.binOp .geq tx x y ty') ty [(x, S a), (y, S b)] [] (B (!Op.bytesLess a.toList b.toList)) := fun d pos aft gd n tm hp up hd hx hb =>
  d_bin hx.1 hx.2.1 hd rfl fun w => by simp [eqGuard, binOp, Op.stringOp]
theorem v_sleq : Val P (.binOp .leq tx x y ty') ty [(x, S a), (y, S b)] [] (B (Op.bytesLess a.toList b.toList || decide (a = b))) := fun d pos aft gd n tm hp up hd hx hb =>
  d_bin hx.1 hx.2.1 hd rfl fun w => by rw [← toList_eq]; simp [eqGuard, binOp, Op.stringOp]
theorem v_sslice [ht : HasT P t ti] (hk : ti.kind = .str) (h0 : 0 ≤ i) (h1 : i ≤ j) (h2 : j ≤ s.size) : Val P (.slice t x (some y) (some z) none) ty [(x, S s), (y, I kk i), (z, I k' j)] [] (S (s.extract i.toNat j.toNat)) := fun d pos aft gd n tm hp up hd hx hb =>
  does_pure rfl hd fun β own ac w hr => ⟨.string (s.extract i.toNat j.toNat), by
    simp only [execOp, (hr.ev hx.1).lit, (hr.ev hx.2.1).lit, (hr.ev hx.2.2.1).lit, Option.map_some, Option.map_none]
    have h3 : (0 : Int) ≤ j := by omega
    have h5 : ¬ (max j 0 < i) := by omega
    simp [Instr.sliceAt, Instr.slice, Instr.sliceBounds, Instr.sliceBound, asIntOf, run_underlying (ht.str hk), h0, h3, h2, h5, h1], .S _⟩
theorem v_sslicef [ht : HasT P t ti] (hk : ti.kind = .str) (h0 : 0 ≤ i) (h1 : i ≤ s.size) : Val P (.slice t x (some y) none none) ty [(x, S s), (y, I kk i)] [] (S (s.extract i.toNat s.size)) := fun d pos aft gd n tm hp up hd hx hb =>
  does_pure rfl hd fun β own ac w hr => ⟨.string (s.extract i.toNat s.size), by
    simp only [execOp, (hr.ev hx.1).lit, (hr.ev hx.2.1).lit, Option.map_some, Option.map_none]
    simp [Instr.sliceAt, Instr.slice, Instr.sliceBounds, Instr.sliceBound, asIntOf, run_underlying (ht.str hk), h0, h1], .S _⟩
theorem v_sslicet [ht : HasT P t ti] (hk : ti.kind = .str) (h0 : 0 ≤ j) (h1 : j ≤ s.size) : Val P (.slice t x none (some z) none) ty [(x, S s), (z, I kk j)] [] (S (s.extract 0 j.toNat)) := fun d pos aft gd n tm hp up hd hx hb =>
  does_pure rfl hd fun β own ac w hr => ⟨.string (s.extract 0 j.toNat), by
    simp only [execOp, (hr.ev hx.1).lit, (hr.ev hx.2.1).lit, Option.map_some, Option.map_none]
    simp [Instr.sliceAt, Instr.slice, Instr.sliceBounds, Instr.sliceBound, asIntOf, run_underlying (ht.str hk), h0, h1], .S _⟩

/-- the bytes of a string as data -/
abbrev Dbyte (b : UInt8) : D := .lit (.int .u8 b.toNat)
def bytesD (l : List UInt8) : D := .slice (l.map fun b => [Dbyte b])
theorem v_bytes {src dst : TypeId} {ts td te : TI} [hs : HasT P src ts] [hd' : HasT P dst td] [he : HasT P e te] (hks : ts.kind = .str) (hkd : td.kind = .slice e) (hke : te.kind = .int .u8) :
    Val P (.convert src dst x) ty [(x, S s)] [] (.d (bytesD s.data.toList)) := fun d pos aft gd n tm hp up hd hx hb =>
  does_val rfl hd fun β own ac w hr => by
    have hrun := run_bytes_of_string (P := P) w src dst e s (hs.str hks) (hd'.slice hkd) (he.int hke)
    have hB : RowKit.Below w.heap.size w (w.drew.alloc (.cells (bytesRow s (grownCap w s.size 0 e)) e ((bytesRow s (grownCap w s.size 0 e)).size, (bytesRow s (grownCap w s.size 0 e)).size + 1))) :=
      ((RowKit.Below.refl _ _).drew).alloc (Nat.le_refl _) _
    refine ⟨_, _, by simp only [execOp, (hr.ev hx.1).lit]; rw [Sem.run_bind, hrun]; rfl, hB, .d _ _ ?_⟩
    have hl : s.size = (s.data.toList.map fun b => [Dbyte b]).length := by simp
    have hcap : s.size ≤ grownCap w s.size 0 e := grownCap_ge _ _ _ _
    rw [bytesD]
    generalize grownCap w s.size 0 e = cap at hcap
    conv in Value.slice _ _ _ => rw [hl]
    refine .slice _ w.heap.size 0 cap 1 (fun i _ => .int .u8 (s.data.toList.getD i 0).toNat) (by rw [← hl]; exact hcap) (fun h => by have := hr.heap.lt _ h; omega) ?_ (fun y hy => by simp only [List.mem_map] at hy; obtain ⟨b, _, rfl⟩ := hy; rfl) (fun i hi j hj => ?_) (fun i z hz j u hu => ?_)
    · simp
    · rw [← hl] at hi
      have hj0 : j = 0 := by omega
      subst hj0
      have hi' : i < s.data.size := hi
      refine ⟨?_, rfl⟩
      rw [cell_of_row _ w.heap.size _ (bytesRow s cap) e ((bytesRow s cap).size, (bytesRow s cap).size + 1) (alloc_new w.drew _)]
      simp [bytesRow, Array.getElem?_append, List.getD]
      rw [if_pos hi, Array.getElem?_eq_getElem hi']; simp
    · rw [List.getElem?_map] at hz
      cases hq : s.data.toList[i]? with
      | none => rw [hq] at hz; cases hz
      | some b =>
        rw [hq] at hz; simp at hz; subst hz
        cases j with
        | zero =>
          simp at hu; subst hu
          rw [List.getD, hq]
          exact .lit _ rfl
        | succ j => simp at hu
end

/-! ways that meet -/
theorem r_join {c : Operand} {u v : Code} {s : St} {σ : Type} (I : σ → St) (J : σ → Prop) (hk : ∀ x, J x → Run P f R k (I x)) (h : (∀ x, J x → Run P f R k (I x)) → Run P f R (.code (.cond c u v) :: k) s) :
    Run P f R (.code (.cond c u v) :: k) s := h hk
/-- the same in front of anything: c first, then k -/
theorem r_meet {c : Code} {s : St} {σ : Type} (I : σ → St) (J : σ → Prop) (hk : ∀ x, J x → Run P f R k (I x)) (h : (∀ x, J x → Run P f R k (I x)) → Run P f R (.code c :: k) s) : Run P f R (.code c :: k) s := h hk

/-! calls with one of several results -/
def NF (P : Program) (g : FuncId) (ps : List PV) (Q : PV → Prop) : Prop := ∀ H, Spec P g ps H (fun r H' => ∃ p, r = .v p ∧ Q p ∧ H' = H)
theorem nf_of {g : FuncId} {ps : List PV} {Q : PV → Prop} (h : ∀ H, Spec P g ps H (fun r H' => ∃ p, r = .v p ∧ Q p ∧ H' = H)) : NF P g ps Q := h
theorem Spec.mono {g : FuncId} {ps : List PV} {H : Hf} {R R' : PostS} (h : Spec P g ps H R) (hm : ∀ r H', R r H' → R' r H') : Spec P g ps H R' :=
  ⟨h.plain, fun β own w vals hh ha => (h.run β own w vals hh ha).mono fun e w' ⟨v, r, H', own', h1, h2, h3, h4, h5⟩ => ⟨v, r, H', own', h1, hm _ _ h2, h3, h4, h5⟩⟩
theorem PureF.nf {g : FuncId} {ps : List PV} {Q : PV → Prop} (h : PureF P g ps p) (hq : Q p) : NF P g ps Q := fun H => (h H).mono fun r H' ⟨h1, h2⟩ => ⟨p, h1, hq, h2⟩
theorem NF.mono {g : FuncId} {ps : List PV} {Q Q' : PV → Prop} (h : NF P g ps Q) (hq : ∀ p, Q p → Q' p) : NF P g ps Q' := fun H => (h H).mono fun r H' ⟨p, h1, h2, h3⟩ => ⟨p, h1, hq p h2, h3⟩
theorem o_nf {g : FuncId} {args : List Operand} {ps : List PV} {ats : Array TypeId} {Q : PV → Prop} (hsp : NF P g ps Q) (hev : St.evc ⟨n, tm, hp, up⟩ args = some ps) (hd : d < n) (hk : ∀ p, Q p → Ops P f R all l k ⟨n, (d, p) :: tm, hp, up⟩) :
    Op1 P f R all ⟨some d, .call ⟨.value (.func g), args.toArray, ats⟩, ty, pos, aft, gd⟩ l k ⟨n, tm, hp, up⟩ := by
  obtain ⟨h1, h2⟩ := evc_some hev
  refine o_call (first := []) (cap := []) (R' := fun r H' => ∃ p, r = .v p ∧ Q p ∧ H' = push hp up) rfl h1 (by simpa using (Spec.pn (by rw [h2]; exact hsp _))) hd ?_
  rintro r H ⟨p, h1, h2, h3⟩
  exact ⟨p, hp, up, h1, h3, hk p h2⟩

/-- a function that hands back one of several values and leaves one of several memories -/
def Rel (P : Program) (g : FuncId) (ps : List PV) (bs : List (Nm × Blk)) {σ : Type} (Q : σ → Prop) (p : σ → PV) (hs : σ → List (Nm × Blk)) : Prop :=
  ∀ H : Hf, (∀ q ∈ bs, H q.1.1 q.1.2 = some q.2) → Spec P g ps H (fun r H' => ∃ x, Q x ∧ r = .v (p x) ∧ H' = updL H (hs x))
theorem Eff1.rel {g : FuncId} {ps : List PV} {bs hs : List (Nm × Blk)} {σ : Type} {Q : σ → Prop} {p : σ → PV} {hs' : σ → List (Nm × Blk)} (x : σ) (h : Eff1 P g ps bs hs (p x)) (hq : Q x) (he : hs' x = hs) : Rel P g ps bs Q p hs' := fun H hH =>
  (h H hH).mono fun r H' ⟨h1, h2⟩ => ⟨x, hq, h1, by rw [he]; exact h2⟩
theorem o_rel {g : FuncId} {args : List Operand} {ps : List PV} {ats : Array TypeId} {bs : List (Nm × Blk)} {σ : Type} {Q : σ → Prop} {p : σ → PV} {hs : σ → List (Nm × Blk)} (hsp : Rel P g ps bs Q p hs) (hev : St.evc ⟨n, tm, hp, up⟩ args = some ps) (hb : BkE ⟨n, tm, hp, up⟩ bs) (hd : d < n)
    (hk : ∀ x, Q x → Ops P f R all l k (St.app ⟨n, tm, hp, up⟩ ⟨[], [], [], [(d, p x)], hs x⟩)) :
    Op1 P f R all ⟨some d, .call ⟨.value (.func g), args.toArray, ats⟩, ty, pos, aft, gd⟩ l k ⟨n, tm, hp, up⟩ := by
  obtain ⟨h1, h2⟩ := evc_some hev
  refine o_call (first := []) (cap := []) (R' := fun r H' => ∃ x, Q x ∧ r = .v (p x) ∧ H' = updL (push hp up) (hs x)) rfl h1 (by simpa using (Spec.pn (by rw [h2]; exact hsp (push hp up) (fun q hq => bks_all (bkE hb) q hq)))) hd ?_
  rintro r H ⟨x, hq, hr, hH⟩
  refine ⟨p x, (St.setBs ⟨n, tm, hp, up⟩ (hs x)).hp, (St.setBs ⟨n, tm, hp, up⟩ (hs x)).up, hr, ?_, ?_⟩
  · rw [hH, push_setBs]
  · have := hk x hq
    have e : St.app ⟨n, tm, hp, up⟩ ⟨[], [], [], [(d, p x)], hs x⟩ = ⟨n, (d, p x) :: tm, (St.setBs ⟨n, tm, hp, up⟩ (hs x)).hp, (St.setBs ⟨n, tm, hp, up⟩ (hs x)).up⟩ := by
      have h3 := (setBs_raw (hs x) ⟨n, tm, hp, up⟩)
      simp only [St.app, St.puts]
      rw [h3.1, h3.2.1]
    rw [e] at this
    exact this
/-- with one block of one's own -/
theorem o_rel1 {g : FuncId} {args : List Operand} {ps : List PV} {ats : Array TypeId} {ms : Nat} {b : Blk} {σ : Type} {Q : σ → Prop} {p : σ → PV} {b' : σ → Blk} (hsp : Rel P g ps [((0, ms), b)] Q p (fun x => [((0, ms), b' x)])) (hev : St.evc ⟨n, tm, hp, up⟩ args = some ps) (hb : look hp ms = some b) (hd : d < n)
    (hk : ∀ x, Q x → Ops P f R all l k ⟨n, (d, p x) :: tm, (ms, b' x) :: hp, up⟩) :
    Op1 P f R all ⟨some d, .call ⟨.value (.func g), args.toArray, ats⟩, ty, pos, aft, gd⟩ l k ⟨n, tm, hp, up⟩ :=
  o_rel hsp hev (by simp [BkE, rawF, push, hb]) hd hk
/-- with two -/
theorem o_rel2 {g : FuncId} {args : List Operand} {ps : List PV} {ats : Array TypeId} {ms mt : Nat} {b c : Blk} {σ : Type} {Q : σ → Prop} {p : σ → PV} {b' c' : σ → Blk} (hsp : Rel P g ps [((0, ms), b), ((0, mt), c)] Q p (fun x => [((0, ms), b' x), ((0, mt), c' x)])) (hev : St.evc ⟨n, tm, hp, up⟩ args = some ps)
    (hb : look hp ms = some b) (hc : look hp mt = some c) (hd : d < n) (hk : ∀ x, Q x → Ops P f R all l k ⟨n, (d, p x) :: tm, (mt, c' x) :: (ms, b' x) :: hp, up⟩) :
    Op1 P f R all ⟨some d, .call ⟨.value (.func g), args.toArray, ats⟩, ty, pos, aft, gd⟩ l k ⟨n, tm, hp, up⟩ :=
  o_rel hsp hev (by simp [BkE, rawF, push, hb, hc]) hd hk

/-! a caller's variable taken over under a name of one's own, and given back -/
def PV.take (m : Nm) (y : Nat) : PV → PV
  | .ptr q off => if q == m then .ptr (0, y) off else .ptr q off
  | p => p
def takeTm (m : Nm) (y : Nat) : List (Nat × PV) → List (Nat × PV)
  | [] => []
  | (t, p) :: r => (t, p.take m y) :: takeTm m y r
theorem look_takeTm {m : Nm} {y : Nat} : ∀ {tm : List (Nat × PV)} {t : Nat}, look (takeTm m y tm) t = (look tm t).map (PV.take m y)
  | [], t => rfl
  | (k, p) :: r, t => by
    simp only [takeTm, look]
    split
    · rfl
    · exact look_takeTm

theorem push_upd {hp : Hp} {up : Hf} (md ms : Nat) (b : Blk) : push hp (upd up (md, ms) b) = upd (push hp up) (md + 1, ms) b := by
  have := push_setB ⟨0, [], hp, up⟩ (md + 1, ms) b
  simpa [St.setB] using this

theorem r_take (y md ms : Nat) {raw : Blk} (hb : up md ms = some raw) (hl : raw.live = true) (hfr : (freeHp y hp && freeTm y tm) = true)
    (h : Run P f R k ⟨n, (100000 + y, .al (0, y) (md + 1, ms)) :: takeTm (md + 1, ms) y tm, (y, raw.lift (md + 1)) :: hp, upd up (md, ms) .gone⟩) : Run P f R k ⟨n, tm, hp, up⟩ := by
  refine Run.step (fun β own a w hr b cs => ⟨setβ β y (β (md + 1, ms)), own, a, w, ?_, Ext.refl _ _, outn_setβ _ _ _, .refl _ _⟩) h
  have hne : ((md + 1, ms) : Nm) ≠ (0, y) := by simp
  simp only [Bool.and_eq_true] at hfr
  have hlook : lookF (push hp up) (md + 1, ms) = some (raw.lift (md + 1)) := by simp [lookF, push, hb]
  have hl' : (raw.lift (md + 1)).live = true := by rw [Blk.lift_live]; exact hl
  have hr0 : HR (push hp (upd up (md, ms) .gone)) β own w := by rw [push_upd]; exact hr.heap.drop (md + 1, ms)
  have key : ∀ m c, lookF (push hp (upd up (md, ms) .gone)) m = some c → c.live = true → m ≠ (md + 1, ms) ∧ lookF (push hp up) m = some c := by
    intro m c hm hc
    rw [push_upd, lookF_upd] at hm
    by_cases e : m = (md + 1, ms)
    · rw [if_pos e] at hm; simp [atF, Blk.lift] at hm; subst hm; cases hc
    · rw [if_neg e] at hm; exact ⟨e, hm⟩
  refine ⟨hr.size, hr.defers, fun t p hp' => ?_, ?_⟩
  · simp only [look] at hp'
    split at hp'
    · simp at hp'; subst hp'
      exact .al _ _ (by rw [setβ_same, setβ_ne _ _ _ _ hne]) _
    · rw [look_takeTm] at hp'
      cases hq : look tm t with
      | none => rw [hq] at hp'; cases hp'
      | some q =>
        rw [hq] at hp'; simp at hp'; subst hp'
        have h1 := hr.tm t q hq
        have h2 := h1.reβ (β' := setβ β y (β (md + 1, ms))) (0, y) (setβ_ne β y _) (freeTm_get hfr.2 hq)
        generalize a.tmps.getD t undef = v at h1 h2
        cases q with
        | ptr q off =>
          simp only [PV.take]
          split
          · rename_i e; simp at e; subst e
            cases h1 with | ptr _ _ g hg => exact .ptr _ _ g (by rw [setβ_same]; exact hg)
          · exact h2
        | _ => exact h2
  · have hbr := hr.heap.blk (md + 1, ms) _ hlook
    refine HR.install (d := y) hr0 hfr.1 (Ext.refl w own) hr.heap.lt (v := β (md + 1, ms)) (b := raw.lift (md + 1)) (fun m c hm hc hmy g hg => ?_) (hbr.reβ (0, y) (setβ_ne β y _) (Blk.lift_says _ _ _))
    obtain ⟨h1, h2⟩ := key m c hm hc
    exact ⟨rfl, (hr.heap.blk m c h2).block_lt hc hg, fun _ => hr.heap.inj m (md + 1, ms) c _ h2 hlook hc hl' h1 g hg⟩

theorem r_give (y md ms : Nat) {b raw : Blk} (hal : look tm (100000 + y) = some (.al (0, y) (md + 1, ms))) (hb : look hp y = some b) (hg : up md ms = some .gone) (hl : b.live = true) (hraw : raw.lift (md + 1) = b)
    (h : Run P f R k ⟨n, tm, (y, .gone) :: hp, upd up (md, ms) raw⟩) : Run P f R k ⟨n, tm, hp, up⟩ := by
  refine Run.step (s := ⟨n, tm, hp, up⟩) (s' := ⟨n, tm, (y, .gone) :: hp, upd up (md, ms) raw⟩) (fun β own a w hr b' fs => ⟨β, own, a, w, ⟨hr.size, hr.defers, hr.tm, ?_⟩, Ext.refl _ _, rfl, .refl _ _⟩) h
  have hβ : β (0, y) = β (md + 1, ms) := by
    have := hr.tm _ _ hal
    generalize a.tmps.getD (100000 + y) undef = v at this
    cases this with | al _ _ h _ => exact h
  have hlook : lookF (push hp up) (0, y) = some b := hb
  have key : ∀ m c, lookF (push ((y, .gone) :: hp) (upd up (md, ms) raw)) m = some c → c.live = true → (m = (md + 1, ms) ∧ c = b) ∨ (m ≠ (md + 1, ms) ∧ m ≠ (0, y) ∧ lookF (push hp up) m = some c) := by
    intro m c hm hc
    rw [lookF_cons] at hm
    by_cases h1 : m = (0, y)
    · rw [if_pos h1] at hm; simp at hm; subst hm; cases hc
    · rw [if_neg h1, push_upd, lookF_upd] at hm
      by_cases h2 : m = (md + 1, ms)
      · rw [if_pos h2] at hm; simp [atF, hraw] at hm; exact .inl ⟨h2, hm.symm⟩
      · rw [if_neg h2] at hm; exact .inr ⟨h2, h1, hm⟩
  refine ⟨fun m c hm => ?_, fun m1 m2 c1 c2 h1 h2 l1 l2 hne g hg => ?_, hr.heap.lt⟩
  · cases hc : c.live with
    | false => cases c <;> first | (simp [Blk.live] at hc; done) | exact .gone _
    | true =>
      rcases key m c hm hc with ⟨rfl, rfl⟩ | ⟨_, _, h3⟩
      · rw [← hβ]; exact hr.heap.blk _ _ hlook
      · exact hr.heap.blk m c h3
  · rcases key m1 c1 h1 l1 with ⟨rfl, rfl⟩ | ⟨n1, n1', h3⟩
    · rcases key m2 c2 h2 l2 with ⟨rfl, rfl⟩ | ⟨n2, n2', h4⟩
      · exact absurd rfl hne
      · rw [← hβ] at hg
        exact hr.heap.inj (0, y) m2 _ c2 hlook h4 l1 l2 (Ne.symm n2') g hg
    · rcases key m2 c2 h2 l2 with ⟨rfl, rfl⟩ | ⟨n2, n2', h4⟩
      · rw [← hβ]
        exact hr.heap.inj m1 (0, y) c1 _ h3 hlook l1 l2 n1' g hg
      · exact hr.heap.inj m1 m2 c1 c2 h3 h4 l1 l2 hne g hg

theorem upd_comm (H : Hf) {m q : Nm} (h : m ≠ q) (b c : Blk) : upd (upd H m b) q c = upd (upd H q c) m b := by
  funext d s
  simp only [upd]
  by_cases h1 : d = q.1 ∧ s = q.2
  · by_cases h2 : d = m.1 ∧ s = m.2
    · exact absurd (Prod.ext (h2.1.symm.trans h1.1) (h2.2.symm.trans h1.2)) h
    · simp [h1, h2]
      intro e1 e2; exact absurd (Prod.ext e1.symm e2.symm) h
  · simp [h1]

/-! nil that becomes a row of one's own -/
theorem BR.nilrow {β : Nm → Value} {w : World} {own : Nat → Prop} {e kk : Nat} (hk : 0 < kk) : BR β w own nilS (.row e kk []) :=
  .row nilS e kk [] [] (by simp [Value.ownBlock]) hk (World.ownsRow_nil w 0 e kk) ⟨by simp, by simp, by simp, by simp⟩
theorem Rep.nilrow {β : Nm → Value} {own : Nat → Prop} {a : Act} {w : World} (x e kk : Nat) (hk : 0 < kk) (hfr : (freeHp x hp && freeTm x tm) = true) (hr : Rep ⟨n, tm, hp, up⟩ β own a w) : Rep ⟨n, tm, (x, .row e kk []) :: hp, up⟩ (setβ β x nilS) own a w :=
  hr.install (d := x) hfr (Ext.refl w own) hr.heap.lt (fun q c hq hl hqd g hg => ⟨rfl, (hr.heap.blk q c hq).block_lt hl hg, fun _ => by simp [blockOf]⟩) (BR.nilrow hk)
theorem r_slot_row (t x e kk : Nat) (ht : look tm t = some (.d (.lit nilS))) (hk : (decide (0 < kk)) = true) (hfr : (freeHp x hp && freeTm x tm) = true) (h : Run P f R k ⟨n, (t, .ref (0, x)) :: tm, (x, .row e kk []) :: hp, up⟩) : Run P f R k ⟨n, tm, hp, up⟩ := by
  refine Run.step (fun β own a w hr b fs => ⟨setβ β x nilS, own, a, w, ?_, Ext.refl _ _, outn_setβ _ _ _, .refl _ _⟩) h
  have h1 := hr.nilrow x e kk (by simpa using hk) hfr
  refine ⟨h1.size, h1.defers, fun u q hu => ?_, h1.heap⟩
  simp only [look] at hu
  split at hu
  · rename_i e; subst e; simp at hu; subst hu
    have h2 := (hr.tm t _ ht).lit
    have h3 := PR.ref (β := setβ β x nilS) (w := w) (own := own) (0, x)
    rw [setβ_same] at h3
    rw [h2]; exact h3
  · exact h1.tm u q hu
theorem r_cell_row (ms j x e kk : Nat) {cs : List PV} (hb : look hp ms = some (.box cs)) (hj : cs[j]? = some (.d (.lit nilS))) (hk : (decide (0 < kk) && !(ms == x)) = true) (hfr : (freeHp x hp && freeTm x tm) = true)
    (h : Run P f R k ⟨n, tm, (ms, .box (cs.set j (.ref (0, x)))) :: (x, .row e kk []) :: hp, up⟩) : Run P f R k ⟨n, tm, hp, up⟩ := by
  simp only [Bool.and_eq_true, decide_eq_true_eq, Bool.not_eq_true', beq_eq_false_iff_ne] at hk
  refine Run.step (fun β own a w hr b fs => ⟨setβ β x nilS, own, a, w, ?_, Ext.refl _ _, outn_setβ _ _ _, .refl _ _⟩) h
  have h1 := hr.nilrow x e kk hk.1 hfr
  have hne : ((0, ms) : Nm) ≠ (0, x) := by simpa using hk.2
  have hlk : lookF (push ((x, .row e kk []) :: hp) up) (0, ms) = some (.box cs) := by rw [lookF_cons, if_neg hne]; exact hb
  refine ⟨h1.size, h1.defers, h1.tm, ?_⟩
  have e1 : push ((ms, .box (cs.set j (.ref (0, x)))) :: (x, .row e kk []) :: hp) up = upd (push ((x, .row e kk []) :: hp) up) (0, ms) (.box (cs.set j (.ref (0, x)))) := by
    rw [← push_setB ⟨n, tm, (x, .row e kk []) :: hp, up⟩ (0, ms)]; rfl
  rw [e1]
  refine h1.heap.change hlk rfl (Ext.refl _ _) rfl (fun g hg => rfl) ?_
  have hbr := h1.heap.blk _ _ hlk
  show BR (setβ β x nilS) w own (setβ β x nilS (0, ms)) (.box (cs.set j (.ref (0, x))))
  generalize setβ β x nilS (0, ms) = u at hbr
  cases hbr with
  | box g t _ cur ho hg hl h2 hd =>
    refine .box g t _ cur ho hg (by rw [List.length_set]; exact hl) h2 fun i q v hq hv => ?_
    by_cases e : i = j
    · subst e
      have hlt := (List.getElem?_eq_some_iff.1 hj).1
      rw [List.getElem?_set_self hlt] at hq
      simp at hq; subst hq
      have h3 := (hd i _ v hj hv).lit
      have h4 := PR.ref (β := setβ β x nilS) (w := w) (own := own) (0, x)
      rw [setβ_same] at h4
      rw [h3]; exact h4
    · rw [List.getElem?_set_ne (Ne.symm e)] at hq
      exact hd i q v hq hv

/-! a store of a row's name in a region that draws -/
theorem t_storer {id : Nat} {ops : List Oper} {s0 : St} {done : List Eff} {gr : List (Nat × PV)} {t : TypeId} {ti : TI} [ht : HasT P t ti] {x y : Operand} {ms q off e kk : Nat} {ys : List (List D)} {cs : List PV}
    (hg : GOK ops.toArray gd gr ⟨n, tm, hp, up⟩) (hev : St.evs ⟨n, tm, hp, up⟩ [x, y] = some [.ptr (0, ms) off, .ref (0, q)]) (hb : look hp ms = some (.box cs)) (hq : look hp q = some (.row e kk ys))
    (hs : ti.size = 1) (hf : decide (off + 1 ≤ cs.length) = true)
    (h : Tr P f R id ops k s0 (done ++ [⟨gr ++ rd [(x, .ptr (0, ms) off), (y, .ref (0, q))], [((0, ms), .box cs), ((0, q), .row e kk ys)], [], [], [((0, ms), .box (splice cs off [.ref (0, q)]))]⟩]) ⟨n, tm, (ms, .box (splice cs off [.ref (0, q)])) :: hp, up⟩ l) :
    Tr P f R id ops k s0 done ⟨n, tm, hp, up⟩ (⟨none, .store t x y, ty, pos, aft, gd⟩ :: l) := by
  have hx := evE (xs := [(x, .ptr (0, ms) off), (y, .ref (0, q))]) hev
  refine t_lo (e := ⟨rd [(x, .ptr (0, ms) off), (y, .ref (0, q))], [((0, ms), .box cs), ((0, q), .row e kk ys)], [], [], [((0, ms), .box (splice cs off [.ref (0, q)]))]⟩) (gr := gr) hg ?_ ⟨rd_agrees hx, ?_, by simp⟩ rfl h
  · intro s2 hn ha
    obtain ⟨h1, h2, _⟩ := evs_any hx ha.ins
    have hb2 := ha.pre ((0, ms), .box cs) (by simp)
    have hq2 := ha.pre ((0, q), .row e kk ys) (by simp)
    have hok : okRef s2 (.ref (0, q)) = true := by
      have := lookF_raw hq2
      simp only [okRef, this]; rfl
    exact does_store ht h1 h2 hb2 (raw' := .box (splice cs off [.ref (0, q)])) rfl rfl hok (by simp [hs]) (by simpa using hf) rfl
  · intro z hz
    simp only [List.mem_cons, List.not_mem_nil, or_false] at hz
    rcases hz with rfl | rfl
    · exact hb
    · exact hq

/-- a structure literal that may hold rows of one's own -/
theorem o_buildr {t : TypeId} {ti : TI} {lp : List (Nat × Operand)} {qs : List (Nat × List PV)} {cs : List PV} {p : PV} [ht : HasT P t ti] (hk : ti.kind = .struct) (hq : St.parts ⟨n, tm, hp, up⟩ lp = some qs) (hok : St.okParts ⟨n, tm, hp, up⟩ lp = true)
    (hf : fillP (fun i => ti.fields[i]?) (zeroP ti.zero) qs = some cs) (hm : mk cs = p) (hz : buildOK ti = true) (hd : d < n) (h : Ops P f R all l k ⟨n, (d, p) :: tm, hp, up⟩) : Op1 P f R all ⟨some d, .build t lp.toArray, ty, pos, aft, gd⟩ l k ⟨n, tm, hp, up⟩ :=
  o_does (d_build hq hok hf hm hk hz hd) h

end Go.Ab
namespace Go.Ab
set_option linter.unusedVariables false
set_option linter.unusedSimpArgs false
set_option linter.unnecessarySimpa false

variable {P : Program} {f : FuncId} {R : Post} {k : List Item} {all : Array Oper} {o : Oper} {l : List Oper}
variable {n : Nat} {tm : List (Nat × PV)} {hp : Hp} {up : Hf} {d : Nat} {ty : TypeId} {pos : String} {aft : Array Edge} {gd : Option (Nat × Bool)} {op : Op} {p : PV}

/-! ranging over a string -/
section
variable {x : Operand} {t : TypeId} {ti : TI} {s : ByteArray} {ms at_ : Nat}
theorem o_range [ht : HasT P t ti] (hk : ti.kind = .str) (hev : St.evs ⟨n, tm, hp, up⟩ [x] = some [S s]) (hfr : (freeHp d hp && freeTm d tm) = true) (hd : d < n) (h : Ops P f R all l k ⟨n, (d, .ptr (0, d) 0) :: tm, (d, .siter s 0) :: hp, up⟩) :
    Op1 P f R all ⟨some d, .range t x, ty, pos, aft, gd⟩ l k ⟨n, tm, hp, up⟩ := by
  obtain ⟨h1, _⟩ := evE (xs := [(x, S s)]) hev
  refine o_does ?_ h
  intro β own a w hr
  have he := Ext.alloc w own (.stringIter s 0)
  have hin := hr.install (d := d) hfr he (fun g hg => by rcases hg with hg | rfl; exact Nat.lt_of_lt_of_le (hr.heap.lt g hg) (by simp); simp) (v := .pointer (some ⟨w.heap.size, 0, none⟩)) (b := .siter s 0)
    (alloc_keep hr.heap _ _ _ rfl) (.siter w.heap.size s 0 (.inr rfl) (alloc_new w _))
  refine ⟨_, .pointer (some ⟨w.heap.size, 0, none⟩), w.alloc (.stringIter s 0), setβ β d (.pointer (some ⟨w.heap.size, 0, none⟩)), _, ?_, .inl rfl, ?_, he, outn_setβ _ _ _⟩
  · have h2 := run_range_string (P := P) w t s (ht.str hk)
    simp only [execOp, (hr.ev h1).lit]
    rw [Sem.run_bind, h2]; rfl
  · exact hin.put (dst := some d) (p := .ptr (0, d) 0) (by simp [St.fits, hd]) (.ptr _ 0 w.heap.size (setβ_same _ _ _))

def World.setObj' (w : World) (r : Nat) (o : Obj) : World := { w with heap := w.heap.setIfInBounds r o }

theorem Rep.siter {s' : St} {β : Nm → Value} {own : Nat → Prop} {a : Act} {w : World} (h : Rep s' β own a w) {m : Nm} (hb : lookF (push s'.hp s'.up) m = some (.siter s at_)) :
    ∃ g, β m = .pointer (some ⟨g, 0, none⟩) ∧ own g ∧ w.heap[g]? = some (.stringIter s at_) := by
  have := h.heap.blk m _ hb
  generalize hv : β m = v at this
  cases this with
  | siter g _ _ ho hg => exact ⟨g, rfl, ho, hg⟩

theorem run_next_str {w : World} {g : Nat} {tt : TypeId} (hg : w.heap[g]? = some (.stringIter s at_)) :
    (Instr.next (.pointer (some ⟨g, 0, none⟩)) true tt).run P w = if at_ < s.size then .ok (.tuple #[.bool true, goInt at_, .int .i32 (Utf8.decode s at_).1]) (World.setObj' w g (.stringIter s (at_ + (Utf8.decode s at_).2))) else .ok (.tuple #[.bool false]) w := by
  simp only [Instr.next, getObj, setObj, Sem.run_bind, Sem.run, hg, Result.andThen]
  split <;> rename_i h
  · simp only [h, if_true, Sem.run, hg, Result.andThen, Sem.run_bind]
    simp [Sem.run, hg, World.setObj']
  · simp [h, Sem.run]
theorem o_next_more (hlt : at_ < s.size) (hev : St.evs ⟨n, tm, hp, up⟩ [x] = some [.ptr (0, ms) 0]) (hb : look hp ms = some (.siter s at_)) (hd : d < n)
    (h : Ops P f R all l k ⟨n, (d, .tup [B true, I .i64 at_, I .i32 (Utf8.decode s at_).1]) :: tm, (ms, .siter s (at_ + (Utf8.decode s at_).2)) :: hp, up⟩) :
    Op1 P f R all ⟨some d, .next x true, ty, pos, aft, gd⟩ l k ⟨n, tm, hp, up⟩ := by
  obtain ⟨h1, _⟩ := evE (xs := [(x, .ptr (0, ms) 0)]) hev
  refine o_does ?_ h
  intro β own a w hr
  have hlk : lookF (push hp up) (0, ms) = some (.siter s at_) := hb
  obtain ⟨g, hβ, hog, hg⟩ := hr.siter (s' := ⟨n, tm, hp, up⟩) hlk
  have hxv := hr.ev h1
  generalize hv : a.eval x = v at hxv
  cases hxv with
  | ptr _ _ g' hb' =>
    rw [hβ] at hb'; simp at hb'; subst hb'
    have hgl := (Array.getElem?_eq_some_iff.1 hg).1
    have hoth : ∀ g', g' ≠ g → (World.setObj' w g (.stringIter s (at_ + (Utf8.decode s at_).2))).heap[g']? = w.heap[g']? := fun g' hg' => by
      simp only [World.setObj']
      rw [Array.getElem?_setIfInBounds_ne (Ne.symm hg')]
    have he : Ext w own (World.setObj' w g (.stringIter s (at_ + (Utf8.decode s at_).2))) own :=
      ⟨rfl, rfl, rfl, by simp [World.setObj'], fun b hb ho => hoth b (fun e => ho (e ▸ hog)), fun b hb ho => ho⟩
    have hch := hr.heap.change (m := (0, ms)) (raw := .siter s (at_ + (Utf8.decode s at_).2)) hlk rfl he (by simp [World.setObj']) (fun g' hg' => hoth g' (fun e => hg' (by rw [hβ, e]; rfl)))
      (by rw [hβ]; exact .siter g s _ hog (by simp [World.setObj', hgl]))
    refine ⟨_, .tuple #[.bool true, goInt at_, .int .i32 (Utf8.decode s at_).1], World.setObj' w g (.stringIter s (at_ + (Utf8.decode s at_).2)), β, own, ?_, .inl rfl, ?_, he, rfl⟩
    · simp only [execOp, hv]; rw [Sem.run_bind, run_next_str hg, if_pos hlt]; rfl
    · have e1 : push ((ms, .siter s (at_ + (Utf8.decode s at_).2)) :: hp) up = upd (push hp up) (0, ms) (.siter s (at_ + (Utf8.decode s at_).2)) := by
        rw [← push_setB ⟨n, tm, hp, up⟩ (0, ms)]; rfl
      have hr2 : Rep ⟨n, tm, (ms, .siter s (at_ + (Utf8.decode s at_).2)) :: hp, up⟩ β own a (World.setObj' w g (.stringIter s (at_ + (Utf8.decode s at_).2))) :=
        ⟨hr.size, hr.defers, fun t q hq => (hr.tm t q hq).mono he, by rw [e1]; exact hch⟩
      refine hr2.put (dst := some d) (by simp [St.fits, hd]) (.tup [B true, I .i64 at_, I .i32 (Utf8.decode s at_).1] [.bool true, goInt at_, .int .i32 (Utf8.decode s at_).1] rfl fun j q u hq hu => ?_)
      match j with
      | 0 => simp at hq hu; subst hq hu; exact .B _
      | 1 => simp at hq hu; subst hq hu; exact .I _ _
      | 2 => simp at hq hu; subst hq hu; exact .I _ _
      | j + 3 => simp at hq
theorem o_next_over (hlt : ¬ at_ < s.size) (hev : St.evs ⟨n, tm, hp, up⟩ [x] = some [.ptr (0, ms) 0]) (hb : look hp ms = some (.siter s at_)) (hd : d < n)
    (h : Ops P f R all l k ⟨n, (d, .tup [B false]) :: tm, hp, up⟩) : Op1 P f R all ⟨some d, .next x true, ty, pos, aft, gd⟩ l k ⟨n, tm, hp, up⟩ := by
  obtain ⟨h1, _⟩ := evE (xs := [(x, .ptr (0, ms) 0)]) hev
  refine o_does (does_pure rfl hd fun β own a w hr => ?_) h
  have hlk : lookF (push hp up) (0, ms) = some (.siter s at_) := hb
  obtain ⟨g, hβ, hog, hg⟩ := hr.siter (s' := ⟨n, tm, hp, up⟩) hlk
  have hxv := hr.ev h1
  generalize hv : a.eval x = v at hxv
  cases hxv with
  | ptr _ _ g' hb' =>
    rw [hβ] at hb'; simp at hb'; subst hb'
    refine ⟨.tuple #[.bool false], by simp only [execOp, hv]; rw [Sem.run_bind, run_next_str hg, if_neg hlt]; rfl, .tup [B false] [.bool false] rfl fun j q u hq hu => ?_⟩
    match j with
    | 0 => simp at hq hu; subst hq hu; exact .B _
    | j + 1 => simp at hq
end

/-! parts of rows -/
section
variable {x y z : Operand} {t e e' : TypeId} {ti te : TI} {kk : Nat} {k1 k2 : IntKind} {i j : Int} {m : Nm} {ys : List (List D)}
theorem Rep.rowv {s : St} {β : Nm → Value} {own : Nat → Prop} {a : Act} {w : World} (h : Rep s β own a w) {m : Nm} {e : TypeId} {k : Nat} {xs : List (List D)} (hb : rawF s m = some (.row e k xs)) : ∃ ad cap, β m = .slice ad xs.length cap ∧ xs.length ≤ cap := by
  obtain ⟨vs, ho, hkk, hown, hrr⟩ := h.row ((lookF_raw hb).trans (by rw [atF_row]))
  rcases hown.2 with h | ⟨g, cap, cur, hv, _, _, hc, _⟩
  · rw [h.2]; exact ⟨_, _, h.1, Nat.le_refl _⟩
  · exact ⟨_, _, hv, hc⟩
theorem v_rslice [ht : HasT P t ti] [he : HasT P e te] (hk : ti.kind = .slice e) (h0 : 0 ≤ i) (h1 : i ≤ j) (h2 : j ≤ ys.length) (hkk : te.size = kk) :
    Val P (.slice t x (some y) (some z) none) ty [(x, .ref m), (y, I k1 i), (z, I k2 j)] [(m, .row e' kk ys)] (.rsub m kk i.toNat (j.toNat - i.toNat)) := fun d pos aft gd n tm hp up hd hx hb =>
  does_pure rfl hd fun β own ac w hr => by
    obtain ⟨ad, cap, hv, hc⟩ := hr.rowv hb.1
    have hxv := hr.ev hx.1
    generalize hv' : ac.eval x = v at hxv
    cases hxv with
    | ref _ =>
      refine ⟨_, ?_, .rsub m kk i.toNat (j.toNat - i.toNat) ys.length cap ad hv (by omega) hc⟩
      simp only [execOp, hv', (hr.ev hx.2.1).lit, (hr.ev hx.2.2.1).lit, hv, Option.map_some, Option.map_none]
      have h3 : (0 : Int) ≤ j := by omega
      have h4 : j ≤ (cap : Int) := by omega
      have h5 : ¬ (max j 0 < i) := by omega
      simp [Instr.sliceAt, Instr.slice, Instr.sliceBounds, Instr.sliceBound, asIntOf, run_underlying (ht.slice hk), h0, h3, h4, h5, h1, he.sizeOf, hkk]
theorem v_rslicef [ht : HasT P t ti] [he : HasT P e te] (hk : ti.kind = .slice e) (h0 : 0 ≤ i) (h1 : i ≤ ys.length) (hkk : te.size = kk) :
    Val P (.slice t x (some y) none none) ty [(x, .ref m), (y, I k1 i)] [(m, .row e' kk ys)] (.rsub m kk i.toNat (ys.length - i.toNat)) := fun d pos aft gd n tm hp up hd hx hb =>
  does_pure rfl hd fun β own ac w hr => by
    obtain ⟨ad, cap, hv, hc⟩ := hr.rowv hb.1
    have hxv := hr.ev hx.1
    generalize hv' : ac.eval x = v at hxv
    cases hxv with
    | ref _ =>
      refine ⟨_, ?_, .rsub m kk i.toNat (ys.length - i.toNat) ys.length cap ad hv (by omega) hc⟩
      simp only [execOp, hv', (hr.ev hx.2.1).lit, hv, Option.map_some, Option.map_none]
      simp [Instr.sliceAt, Instr.slice, Instr.sliceBounds, Instr.sliceBound, asIntOf, run_underlying (ht.slice hk), h0, h1, he.sizeOf, hkk]
theorem v_rslicet [ht : HasT P t ti] [he : HasT P e te] (hk : ti.kind = .slice e) (h0 : 0 ≤ j) (h1 : j ≤ ys.length) (hkk : te.size = kk) :
    Val P (.slice t x none (some z) none) ty [(x, .ref m), (z, I k2 j)] [(m, .row e' kk ys)] (.rsub m kk 0 j.toNat) := fun d pos aft gd n tm hp up hd hx hb =>
  does_pure rfl hd fun β own ac w hr => by
    obtain ⟨ad, cap, hv, hc⟩ := hr.rowv hb.1
    have hxv := hr.ev hx.1
    generalize hv' : ac.eval x = v at hxv
    cases hxv with
    | ref _ =>
      refine ⟨_, ?_, .rsub m kk 0 j.toNat ys.length cap ad hv (by omega) hc⟩
      simp only [execOp, hv', (hr.ev hx.2.1).lit, hv, Option.map_some, Option.map_none]
      have h4 : j ≤ (cap : Int) := by omega
      simp [Instr.sliceAt, Instr.slice, Instr.sliceBounds, Instr.sliceBound, asIntOf, run_underlying (ht.slice hk), h0, h4, he.sizeOf, hkk]

theorem RowR.sub {w : World} {own : Nat → Prop} {ys : List (List D)} {vs : List Value} (h : RowR w own kk ys vs) {a c : Nat} (hac : a + c ≤ ys.length) : RowR w own kk ((ys.drop a).take c) ((vs.drop (a * kk)).take (c * kk)) := by
  have hl := h.2.1
  have hm : (a + c) * kk ≤ ys.length * kk := Nat.mul_le_mul_right _ hac
  rw [Nat.add_mul] at hm
  have e1 : min (c * kk) (vs.length - a * kk) = c * kk := by omega
  have e2 : min c (ys.length - a) = c := by omega
  refine ⟨fun z hz => h.1 z (List.mem_of_mem_drop (List.mem_of_mem_take hz)), ?_, fun v hv => h.2.2.1 v (List.mem_of_mem_drop (List.mem_of_mem_take hv)), fun i z hz j u hu => ?_⟩
  · rw [List.length_take, List.length_take, List.length_drop, List.length_drop, e1, e2]
  · rw [List.getElem?_take] at hz
    split at hz
    · rename_i hi
      rw [List.getElem?_drop] at hz
      obtain ⟨v, hv, hd⟩ := h.2.2.2 _ z hz j u hu
      have hjk : j < kk := by have := h.1 z (List.mem_of_getElem? hz); have := (List.getElem?_eq_some_iff.1 hu).1; omega
      refine ⟨v, ?_, hd⟩
      have : (i + 1) * kk ≤ c * kk := Nat.mul_le_mul_right _ hi
      rw [Nat.add_mul] at this
      rw [List.getElem?_take, if_pos (by omega), List.getElem?_drop, ← hv]
      congr 1
      rw [Nat.add_mul]; omega
    · cases hz

theorem RowR.splice {w : World} {own : Nat → Prop} {ys zs : List (List D)} {vs us : List Value} (h : RowR w own kk ys vs) (h' : RowR w own kk zs us) {a : Nat} (hac : a + zs.length ≤ ys.length) : RowR w own kk (splice ys a zs) (splice vs (a * kk) us) := by
  have hl := h.2.1
  have hl' := h'.2.1
  have hm : (a + zs.length) * kk ≤ ys.length * kk := Nat.mul_le_mul_right _ hac
  rw [Nat.add_mul] at hm
  refine ⟨fun z hz => ?_, by rw [splice_length, splice_length]; exact hl, fun v hv => ?_, fun i z hz j u hu => ?_⟩
  · obtain ⟨i, hi⟩ := List.getElem?_of_mem hz
    rw [splice_get _ _ _ hac] at hi
    split at hi
    · exact h'.1 z (List.mem_of_getElem? hi)
    · exact h.1 z (List.mem_of_getElem? hi)
  · obtain ⟨i, hi⟩ := List.getElem?_of_mem hv
    rw [splice_get _ _ _ (by omega)] at hi
    split at hi
    · exact h'.2.2.1 v (List.mem_of_getElem? hi)
    · exact h.2.2.1 v (List.mem_of_getElem? hi)
  · rw [splice_get _ _ _ hac] at hz
    rw [splice_get _ _ _ (by omega)]
    split at hz
    · rename_i hc
      obtain ⟨v, hv, hd⟩ := h'.2.2.2 _ z hz j u hu
      have hjk : j < kk := by have := h'.1 z (List.mem_of_getElem? hz); have := (List.getElem?_eq_some_iff.1 hu).1; omega
      refine ⟨v, ?_, hd⟩
      have h1 : a * kk ≤ i * kk := Nat.mul_le_mul_right _ hc.1
      have h2 : (i - a + 1) * kk ≤ zs.length * kk := Nat.mul_le_mul_right _ (by omega)
      rw [Nat.add_mul, Nat.sub_mul] at h2
      rw [if_pos (by omega), ← hv]
      congr 1
      rw [Nat.sub_mul]; omega
    · rename_i hc
      obtain ⟨v, hv, hd⟩ := h.2.2.2 _ z hz j u hu
      have hjk : j < kk := by have := h.1 z (List.mem_of_getElem? hz); have := (List.getElem?_eq_some_iff.1 hu).1; omega
      refine ⟨v, ?_, hd⟩
      rw [if_neg, hv]
      intro hc2
      rcases Nat.lt_or_ge i a with h1 | h1
      · have : (i + 1) * kk ≤ a * kk := Nat.mul_le_mul_right _ h1
        rw [Nat.add_mul] at this; omega
      · have h3 : a + zs.length ≤ i := by omega
        have : (a + zs.length) * kk ≤ i * kk := Nat.mul_le_mul_right _ h3
        rw [Nat.add_mul] at this; omega

/-- copy into a part of a row, of elements zs, whose cells are us -/
theorem does_copy {s : St} {x y : Operand} {t1 t2 : TypeId} {ti te : TI} (ht : HasT P t1 ti) (he : HasT P e te) (hk : ti.kind = .slice e) {m : Nm} {lo len : Nat} {zs : List (List D)} (hx : s.ev x = some (.rsub m kk lo len)) (hb : rawF s m = some (.row e' kk ys)) (hkk : te.size = kk)
    (hd : d < s.n) (hlo : lo + len ≤ ys.length) (hm : m.1 = 0)
    (hsrc : ∀ β own a w, Rep s β own a w → ∃ (ad : Option Addr) (len' cap' : Nat) (us : List Value), a.eval y = .slice ad len' cap' ∧ zs.length = Nat.min len' len ∧ RowR w own kk zs us ∧ (zs ≠ [] → ∃ a', ad = some a' ∧ ∀ j u, us[j]? = some u → w.cell? (a'.add j) = some u)) :
    Does P ⟨some d, .call ⟨.builtin .copy, #[x, y], #[t1, t2]⟩, ty, pos, aft, gd⟩ s (s.app ⟨[], [], [], [(d, I .i64 zs.length)], [(m, .row e' kk (splice ys lo zs))]⟩) := by
  obtain ⟨n, tm, hp, up⟩ := s
  obtain ⟨md, ms⟩ := m
  simp only at hm hd
  subst hm
  intro β own a w hr
  obtain ⟨ad, len', cap', us, hyv, hzl, hrz, hcell⟩ := hsrc β own a w hr
  have hlk := (lookF_raw hb).trans (by rw [atF_row])
  obtain ⟨vs, ho, hk0, hown, hrr⟩ := hr.row hlk
  have hxv := hr.ev hx
  generalize hv' : a.eval x = v at hxv
  cases hxv with
  | rsub _ _ _ _ L cap ad0 hβ hL hcap =>
  have hzlen : zs.length ≤ len := by rw [hzl]; exact Nat.min_le_right _ _
  by_cases hz0 : zs = []
  · subst hz0
    have hmin : min len' len = 0 := hzl.symm
    have hl0 : ∀ (x : Addr), (loadCells x 0).run P w = .ok #[] w := fun x => by simpa using run_loadCells_list (P := P) w x [] (by simp)
    have e1 : splice ys lo [] = ys := by cases ys <;> simp [Ab.splice]
    have hrun : (Builtin.copy_ #[t1, t2] ty #[.slice (if cap = lo then ad0 else ad0.map (·.add (lo * kk))) len (cap - lo), .slice ad len' cap']).run P w = .ok (goInt 0) w := by
      generalize (if cap = lo then ad0 else ad0.map (·.add (lo * kk))) = q
      have hmin2 : Nat.min len' len = 0 := hmin
      cases q <;> cases ad <;> simp [Builtin.copy_, run_underlying (ht.slice hk), Builtin.lenOf, Builtin.firstCells, he.sizeOf, hmin2, storeCells, hl0]
    refine ⟨_, goInt 0, w, β, own, by simp [execOp, resolve, invoke, builtin, hv', hyv, hrun], .inl rfl, ?_, Ext.refl _ _, rfl⟩
    rw [e1]
    have e2 : push ((ms, .row e' kk ys) :: hp) up = upd (push hp up) (0, ms) (.row e' kk ys) := by rw [← push_setB ⟨n, tm, hp, up⟩ (0, ms)]; rfl
    have hr2 : Rep ⟨n, tm, (ms, .row e' kk ys) :: hp, up⟩ β own a w := ⟨hr.size, hr.defers, hr.tm, by rw [e2, upd_id (by exact hb)]; exact hr.heap⟩
    exact hr2.put (dst := some d) (by simp [St.fits, hd]) (.I _ _)
  · have hz1 : 0 < zs.length := Nat.pos_of_ne_zero fun h => hz0 (List.eq_nil_of_length_eq_zero h)
    obtain ⟨a', rfl, hcl⟩ := hcell hz0
    rcases hown.2 with ⟨h1, h2⟩ | ⟨g, cap2, cur, hv2, _, hg, hle, hmx, hcs, htake⟩
    · omega
    · rw [hβ] at hv2
      simp at hv2
      obtain ⟨rfl, hLy, rfl⟩ := hv2
      have hne : cap ≠ lo := by omega
      have hul := hrz.2.1
      have hll := run_loadCells_list (P := P) w a' us hcl
      rw [hul] at hll
      have hvl : vs.length = ys.length * kk := hrr.2.1
      have hfit : lo * kk + us.length ≤ cur.size := by
        rw [hul, hcs, ← Nat.add_mul]
        exact Nat.mul_le_mul_right _ (by omega)
      have hst := run_storeCells_at P g (lo * kk) e' us 0 cur w hg (by simpa using hfit) hrz.2.2.1
      have hadd : (⟨g, 0, none⟩ : Addr).add (lo * kk) = ⟨g, lo * kk, none⟩ := by rw [addr_add]; simp
      have hmin2 : Nat.min len' len = zs.length := hzl.symm
      have hrun : (Builtin.copy_ #[t1, t2] ty #[.slice (if cap = lo then some ⟨g, 0, none⟩ else (some (⟨g, 0, none⟩ : Addr)).map (·.add (lo * kk))) len (cap - lo), .slice (some a') len' cap']).run P w = .ok (goInt zs.length) (w.setRow g (splice cur.toList (lo * kk) us).toArray) := by
        rw [splice_eq _ _ _ (by simpa using hfit)]
        simp only [Nat.add_zero] at hst
        simp [Builtin.copy_, run_underlying (ht.slice hk), Builtin.lenOf, Builtin.firstCells, he.sizeOf, hmin2, hne, hadd, hkk, hll, hst]
      have hog : own g := ho g (by rw [hβ]; rfl)
      have hE : Ext w own (w.setRow g (splice cur.toList (lo * kk) us).toArray) own :=
        ⟨rfl, rfl, rfl, by simp, fun b hb ho => setRow_other w g b _ (fun e => ho (e ▸ hog)), fun b hb ho => ho⟩
      have hrow := (hrr.splice hrz (a := lo) (by omega)).mono hE
      have hvf : lo * kk + us.length ≤ vs.length := by rw [hvl, hul, ← Nat.add_mul]; exact Nat.mul_le_mul_right _ (by omega)
      have htl : vs.length = min (ys.length * kk) cur.size := by rw [← htake, List.length_take]; simp
      have hbr : BR β (w.setRow g (splice cur.toList (lo * kk) us).toArray) own (β (0, ms)) (atF (0, ms) (.row e' kk (splice ys lo zs))) := by
        rw [atF_row]
        refine .row _ e' kk _ (splice vs (lo * kk) us) ho hk0 ⟨by rw [splice_length, splice_length]; exact hvl, .inr ⟨g, cap, _, by rw [splice_length, hβ, hLy], Nat.zero_le _, setRow_heap w g cur _ e' _ hg, by rw [splice_length]; exact hle, hmx, by simp [splice_length, hcs], ?_⟩⟩ hrow
        rw [splice_length]
        simp only [List.toList_toArray]
        rw [splice_take _ _ _ _ (by omega) (by simp; omega), htake]
      have hheap := hr.heap.change (raw := .row e' kk (splice ys lo zs)) hlk rfl hE (by simp) (fun g' hg' => setRow_other w g g' _ (fun e => hg' (by rw [hβ, e]; rfl))) hbr
      refine ⟨_, goInt zs.length, _, β, own, by simp only [Option.map_some] at hrun hv'; simp [execOp, resolve, invoke, builtin, hv', hyv, hrun], .inl rfl, ?_, hE, rfl⟩
      have e2 : push ((ms, .row e' kk (splice ys lo zs)) :: hp) up = upd (push hp up) (0, ms) (.row e' kk (splice ys lo zs)) := by rw [← push_setB ⟨n, tm, hp, up⟩ (0, ms)]; rfl
      have hr2 : Rep ⟨n, tm, (ms, .row e' kk (splice ys lo zs)) :: hp, up⟩ β own a (w.setRow g (splice cur.toList (lo * kk) us).toArray) :=
        ⟨hr.size, hr.defers, fun t q hq => (hr.tm t q hq).mono hE, by rw [e2]; exact hheap⟩
      exact hr2.put (dst := some d) (by simp [St.fits, hd]) (.I _ _)

/-- what a part of a row gives as a source -/
theorem src_rsub {s : St} {β : Nm → Value} {own : Nat → Prop} {a : Act} {w : World} (hr : Rep s β own a w) {m : Nm} {lo len c : Nat} (hb : rawF s m = some (.row e' kk ys)) (hlo : lo + len ≤ ys.length) {v : Value} (hv : PR β w own (.rsub m kk lo len) v) (hc : c ≤ len) :
    ∃ (ad : Option Addr) (cap' : Nat) (us : List Value), v = .slice ad len cap' ∧ RowR w own kk ((ys.drop lo).take c) us ∧ ((ys.drop lo).take c ≠ [] → ∃ a', ad = some a' ∧ ∀ j u, us[j]? = some u → w.cell? (a'.add j) = some u) := by
  obtain ⟨vs, ho, hk0, hown, hrr⟩ := hr.row ((lookF_raw hb).trans (by rw [atF_row]))
  cases hv with
  | rsub _ _ _ _ L cap ad0 hβ hL hcap =>
    refine ⟨_, _, (vs.drop (lo * kk)).take (c * kk), rfl, hrr.sub (by omega), fun hne => ?_⟩
    have hlen : 0 < ((ys.drop lo).take c).length := Nat.pos_of_ne_zero fun h => hne (List.eq_nil_of_length_eq_zero h)
    simp at hlen
    rcases hown.2 with ⟨h1, h2⟩ | ⟨g, cap2, cur, hv2, _, hg, hle, hmx, hcs, htake⟩
    · omega
    · rw [hβ] at hv2; simp at hv2
      obtain ⟨rfl, hLy, rfl⟩ := hv2
      refine ⟨⟨g, lo * kk, none⟩, ?_, fun j u hu => ?_⟩
      · rw [if_neg (by omega)]
        simp [addr_add]
      · rw [List.getElem?_take] at hu
        split at hu
        · rw [List.getElem?_drop, ← htake, List.getElem?_take] at hu
          split at hu
          · rw [addr_add, cell_of_row w g _ cur e' (0, 0) hg]
            simpa using hu
          · cases hu
        · cases hu

/-- copy within one row -/
theorem o_copy_self [ht : HasT P t ti] [he : HasT P e te] {ms lo len lo' len' c : Nat} {ys' : List (List D)} (hk : ti.kind = .slice e) (hev : St.evs ⟨n, tm, hp, up⟩ [x, y] = some [.rsub (0, ms) kk lo len, .rsub (0, ms) kk lo' len']) (hb : look hp ms = some (.row e' kk ys)) (hkk : te.size = kk) (hd : d < n)
    (h1 : lo + len ≤ ys.length) (h2 : lo' + len' ≤ ys.length) (hc : c = min len' len) (hys : splice ys lo ((ys.drop lo').take c) = ys') (h : Ops P f R all l k ⟨n, (d, I .i64 c) :: tm, (ms, .row e' kk ys') :: hp, up⟩) :
    Op1 P f R all ⟨some d, .call ⟨.builtin .copy, #[x, y], #[t, t]⟩, ty, pos, aft, gd⟩ l k ⟨n, tm, hp, up⟩ := by
  obtain ⟨hx, hy, _⟩ := evE (xs := [(x, .rsub (0, ms) kk lo len), (y, .rsub (0, ms) kk lo' len')]) hev
  have hlen : ((ys.drop lo').take c).length = c := by simp; omega
  refine o_does (does_copy (P := P) (d := d) (t2 := t) (zs := (ys.drop lo').take c) ht he hk (s := ⟨n, tm, hp, up⟩) hx hb hkk hd h1 rfl fun β own a w hr => ?_) ?_
  · obtain ⟨ad, cap', us, e1, e2, e3⟩ := src_rsub (c := c) (s := ⟨n, tm, hp, up⟩) (m := (0, ms)) hr hb h2 (hr.ev hy) (by omega)
    exact ⟨ad, len', cap', us, e1, by rw [hlen, hc], e2, e3⟩
  · rw [hlen, hys]; exact h
theorem t_copy_self {id : Nat} {ops : List Oper} {s0 : St} {done : List Eff} {gr : List (Nat × PV)} [ht : HasT P t ti] [he : HasT P e te] {ms lo len lo' len' c : Nat} {ys' : List (List D)} (hg : GOK ops.toArray gd gr ⟨n, tm, hp, up⟩) (hk : ti.kind = .slice e) (hev : St.evs ⟨n, tm, hp, up⟩ [x, y] = some [.rsub (0, ms) kk lo len, .rsub (0, ms) kk lo' len'])
    (hb : look hp ms = some (.row e' kk ys)) (hkk : te.size = kk) (hd : d < n) (h1 : lo + len ≤ ys.length) (h2 : lo' + len' ≤ ys.length) (hc : c = min len' len) (hys : splice ys lo ((ys.drop lo').take c) = ys')
    (h : Tr P f R id ops k s0 (done ++ [⟨gr ++ rd [(x, .rsub (0, ms) kk lo len), (y, .rsub (0, ms) kk lo' len')], [((0, ms), .row e' kk ys)], [], [(d, I .i64 c)], [((0, ms), .row e' kk ys')]⟩]) ⟨n, (d, I .i64 c) :: tm, (ms, .row e' kk ys') :: hp, up⟩ l) :
    Tr P f R id ops k s0 done ⟨n, tm, hp, up⟩ (⟨some d, .call ⟨.builtin .copy, #[x, y], #[t, t]⟩, ty, pos, aft, gd⟩ :: l) := by
  have hxy := evE (xs := [(x, .rsub (0, ms) kk lo len), (y, .rsub (0, ms) kk lo' len')]) hev
  have hlen : ((ys.drop lo').take c).length = c := by simp; omega
  refine t_lo (e := ⟨rd [(x, .rsub (0, ms) kk lo len), (y, .rsub (0, ms) kk lo' len')], [((0, ms), .row e' kk ys)], [], [(d, I .i64 c)], [((0, ms), .row e' kk ys')]⟩) (gr := gr) hg ?_ ⟨rd_agrees hxy, by simp [rawF, push, hb], by simp⟩ rfl h
  intro s2 hn ha
  obtain ⟨hx, hy, _⟩ := evs_any hxy ha.ins
  have hb2 := ha.pre ((0, ms), .row e' kk ys) (by simp)
  have := does_copy (P := P) (d := d) (t2 := t) (ty := ty) (pos := pos) (aft := aft) (gd := gd) (zs := (ys.drop lo').take c) ht he hk (s := s2) hx hb2 hkk (by rw [hn]; exact hd) h1 rfl fun β own a w hr => by
    obtain ⟨ad, cap', us, e1, e2, e3⟩ := src_rsub (c := c) hr hb2 h2 (hr.ev hy) (by omega)
    exact ⟨ad, len', cap', us, e1, by rw [hlen, hc], e2, e3⟩
  rw [hlen, hys] at this
  exact this
end

end Go.Ab
namespace Go.Ab
set_option linter.unusedVariables false
set_option linter.unusedSimpArgs false
set_option linter.unnecessarySimpa false

variable {P : Program} {f : FuncId} {R : Post} {k : List Item} {all : Array Oper} {o : Oper} {l : List Oper}
variable {n : Nat} {tm : List (Nat × PV)} {hp : Hp} {up : Hf} {d : Nat} {ty : TypeId} {pos : String} {aft : Array Edge} {gd : Option (Nat × Bool)} {op : Op} {p : PV}

theorem run_equalIn_bool {t : TypeId} (dd : Nat) (a b : Bool) (w : World) (h : P.underlying t = some .bool) : (Op.equalIn (dd + 1) t (.bool a) (.bool b)).run P w = .ok (a == b) w := by
  simp [Op.equalIn, run_underlying h]
theorem run_equal_bool {t : TypeId} (a b : Bool) (w : World) (h : P.underlying t = some .bool) : (Op.equal t (.bool a) (.bool b)).run P w = .ok (a == b) w := by
  have := run_equalIn_bool (P := P) (t := t) 9999 a b w h
  simp only [Op.equal, Op.maxDepth]
  exact this
section
variable {x y : Operand} {tx ty' : TypeId} {a b : Bool}
theorem v_beql {ti : TI} [ht : HasT P tx ti] (hk : ti.kind = .bool) : Val P (.binOp .eql tx x y ty') ty [(x, B a), (y, B b)] [] (B (decide (a = b))) := fun d pos aft gd n tm hp up hd hx hb =>
  d_bin hx.1 hx.2.1 hd rfl fun w => by simp [eqGuard, binOp, run_equal_bool _ _ _ (ht.bool hk)]; cases a <;> cases b <;> rfl
theorem v_bneq {ti : TI} [ht : HasT P tx ti] (hk : ti.kind = .bool) : Val P (.binOp .neq tx x y ty') ty [(x, B a), (y, B b)] [] (B (!decide (a = b))) := fun d pos aft gd n tm hp up hd hx hb =>
  d_bin hx.1 hx.2.1 hd rfl fun w => by simp [eqGuard, binOp, run_equal_bool _ _ _ (ht.bool hk)]; cases a <;> cases b <;> rfl
end

section
variable {t e e' : TypeId} {ti te : TI} {x y : Operand} {m : Nm} {ms kk i off : Nat} {α : Type} {q q' : List α} {g : α → List D} {v : α} {u : D}
theorem v_rloadm [ht : HasT P t ti] (hz : q[i]? = some v) (hu : (g v)[off]? = some u) (hs : ti.size = 1) (ha : ti.agg = false) : Val P (.load t x) ty [(x, .rptr m kk i off)] [(m, .row e' kk (q.map g))] (.d u) :=
  v_rload (by simp [hz]) hu hs ha
theorem v_rloadma [ht : HasT P t ti] (hz : q[i]? = some v) (hs : (g v).length = ti.size) (ha : ti.agg = true) : Val P (.load t x) ty [(x, .rptr m kk i 0)] [(m, .row e' kk (q.map g))] (.d (.agg (g v))) :=
  v_rload0 (z := g v) (by simp [hz]) hs ha
theorem o_rstorem {ps : List PV} {ds : List D} [ht : HasT P t ti] (v' : α) (hev : St.evs ⟨n, tm, hp, up⟩ [x, y] = some [.rptr (0, ms) kk i off, p]) (hb : look hp ms = some (.row e kk (q.map g))) (hp' : cellsOf p = some ps) (hds : allD ps = some ds) (hz : q[i]? = some v) (hv : splice (g v) off ds = g v') (hs : ds.length = ti.size)
    (hf : decide (off + ds.length ≤ kk) = true) (hq : q.set i v' = q') (h : Ops P f R all l k ⟨n, tm, (ms, .row e kk (q'.map g)) :: hp, up⟩) : Op1 P f R all ⟨none, .store t x y, ty, pos, aft, gd⟩ l k ⟨n, tm, hp, up⟩ :=
  o_rstore0 hev hb hp' hds (z := g v) (by simp [hz]) hs hf (by rw [hv, ← hq, List.map_set]) h
theorem t_rstorem {id : Nat} {ops : List Oper} {s0 : St} {done : List Eff} {gr : List (Nat × PV)} {ps : List PV} {ds : List D} [ht : HasT P t ti] (v' : α) (hg : GOK ops.toArray gd gr ⟨n, tm, hp, up⟩) (hev : St.evs ⟨n, tm, hp, up⟩ [x, y] = some [.rptr (0, ms) kk i off, p]) (hb : look hp ms = some (.row e kk (q.map g)))
    (hp' : cellsOf p = some ps) (hds : allD ps = some ds) (hz : q[i]? = some v) (hv : splice (g v) off ds = g v') (hs : ds.length = ti.size) (hf : decide (off + ds.length ≤ kk) = true) (hq : q.set i v' = q')
    (h : Tr P f R id ops k s0 (done ++ [⟨gr ++ rd [(x, .rptr (0, ms) kk i off), (y, p)], [((0, ms), .row e kk (q.map g))], [], [], [((0, ms), .row e kk (q'.map g))]⟩]) ⟨n, tm, (ms, .row e kk (q'.map g)) :: hp, up⟩ l) : Tr P f R id ops k s0 done ⟨n, tm, hp, up⟩ (⟨none, .store t x y, ty, pos, aft, gd⟩ :: l) :=
  t_rstore0 hg hev hb hp' hds (z := g v) (by simp [hz]) hs hf (by rw [hv, ← hq, List.map_set]) h
end

theorem nf_pure {g : FuncId} {ps : List PV} {x : PV} (h : NF P g ps (fun p => p = x)) : PureF P g ps x := fun H => (h H).mono fun r H' ⟨p, h1, h2, h3⟩ => ⟨by rw [h1, h2], h3⟩

end Go.Ab
namespace Go.Ab
set_option linter.unusedVariables false
set_option linter.unusedSimpArgs false
set_option linter.unnecessarySimpa false

variable {P : Program} {f : FuncId} {R : Post} {k : List Item} {all : Array Oper} {o : Oper} {l : List Oper}
variable {n : Nat} {tm : List (Nat × PV)} {hp : Hp} {up : Hf} {d : Nat} {ty : TypeId} {pos : String} {aft : Array Edge} {gd : Option (Nat × Bool)} {op : Op} {p : PV}

theorem does_append_nil {s : St} {t e : TypeId} {ti te : TI} (ht : HasT P t ti) (he : HasT P e te) {x y : Operand} {ys : List (List D)} (hx : s.ev x = some (.d (.lit nilS))) (hy : s.ev y = some (.d (.slice ys)))
    (hk : ti.kind = .slice e) (hys : ∀ y ∈ ys, y.length = te.size) (hz : te.zero.length = te.size) (hz0 : te.size ≠ 0) (hsm : ys.length * te.bytes ≤ 140737488355328) (hsm2 : ys.length ≤ 9223372036854775807)
    (hf : (freeHp d s.hp && freeTm d s.tm) = true) (hd : d < s.n) :
    Does P ⟨some d, .call ⟨.builtin .append, #[x, y], #[t, t]⟩, ty, pos, aft, gd⟩ s (s.app ⟨[], [], [], [(d, .ref (0, d))], [((0, d), .row e te.size ys)]⟩) := by
  obtain ⟨n, tm, hp, up⟩ := s
  simp only at hf hd
  intro β own a w hr
  have hyv := hr.ev hy
  have hxv := (hr.ev hx).lit
  generalize hu : a.eval y = u at hyv
  cases hyv with
  | d _ _ hyd =>
    have hk0 : 0 < te.size := by omega
    have hown := World.ownsRow_nil w 0 e te.size
    have main : ∃ v' w' us, (Builtin.append_ #[t, t] ty #[nilS, u]).run P w = .ok v' w' ∧ w'.ownsRow 0 e te.size v' ys.length us ∧ w.grownBy w' none ∧ RowR w own te.size ys us ∧ (v'.ownBlock = none ∨ v'.ownBlock = some w.heap.size) := by
      by_cases hnil : ys = []
      · subst hnil
        obtain ⟨b, cap', rfl⟩ := hyd.slice_len
        exact ⟨nilS, w, [], run_app_nothing ht he hk none 0 0 b cap' (Nat.le_refl _) w hz0, by simpa using hown, ⟨rfl, rfl, rfl, Nat.le_refl _, fun _ _ _ => rfl⟩, ⟨by simp, by simp, by simp, by simp⟩, .inl rfl⟩
      · obtain ⟨ad, cap, us, rfl, hus, hcells⟩ := src_cells hyd hys hnil
        obtain ⟨i, uu, z, hi, huu, hzi, hs, hb', hkk, hzz, _⟩ := he.get
        obtain ⟨v', w', hrun, h1, h2, h3⟩ := run_append_where (P := P) w 0 t ty e i z te.size te.bytes (ht.slice hk) hi hzi hs hb' (by rw [← Array.length_toList, hzz]; exact hz) hk0 nilS 0 [] hown ad ys.length cap us hus.2.1 hcells hus.2.2.1
          (by unfold maxLen; omega) (by simpa using hsm) (Nat.zero_le _) (by cases ys <;> simp_all)
        exact ⟨v', w', us, hrun, by simpa using h1, h2, hus, h3⟩
    obtain ⟨v', w', us, hrun, hown', hgrow, hus, hwhere⟩ := main
    have hblk := blockOf_row hown'
    have hE : Ext w own w' (fun g => own g ∨ v'.ownBlock = some g) := by
      refine ⟨hgrow.os, hgrow.tape, hgrow.output, hgrow.size, fun b hb hno => hgrow.block b hb (by simp), fun b hb hno => ?_⟩
      rintro (h | h)
      · exact hno h
      · rcases hwhere with e | e
        · rw [e] at h; cases h
        · rw [e] at h; simp at h; omega
    have hrow := hus.mono hE
    have hin := hr.install (d := d) (b := .row e te.size ys) (v := v') (own' := fun g => own g ∨ v'.ownBlock = some g) hf hE
      (fun g hg => by
        rcases hg with hg | hg
        · exact Nat.lt_of_lt_of_le (hr.heap.lt g hg) hgrow.size
        · exact (hown'.lt g hg).2)
      (fun q c hq hl hqd g hg => by
        have hog := (hr.heap.blk q c hq).block_lt hl hg
        refine ⟨hgrow.block g (hr.heap.lt g hog) (by simp), .inl hog, fun _ e => ?_⟩
        rw [hblk] at e
        rcases hwhere with h | h
        · rw [h] at e; cases e
        · rw [h] at e; simp at e; have := hr.heap.lt g hog; omega)
      (.row v' e te.size _ _ (fun g hg => .inr hg) hk0 hown' hrow)
    refine ⟨_, v', w', setβ β d v', _, ?_, .inl rfl, ?_, hE, outn_setβ _ _ _⟩
    · simp [execOp, resolve, invoke, builtin, hxv, hu, hrun]
    · have hp := PR.ref (β := setβ β d v') (w := w') (own := fun g => own g ∨ v'.ownBlock = some g) (0, d)
      rw [setβ_same] at hp
      exact hin.put (dst := some d) (p := .ref (0, d)) (by simpa [St.fits] using hd) hp

section
variable {t e : TypeId} {ti te : TI} {x y : Operand} {α : Type} {r : List α} {g : α → List D}
theorem o_appn [ht : HasT P t ti] [he : HasT P e te] (hev : St.evs ⟨n, tm, hp, up⟩ [x, y] = some [.d (.lit nilS), .d (.slice (r.map g))]) (hk : ti.kind = .slice e) (hap : apOK te = true) (hgl : ∀ v, (g v).length = te.size) (hbt : decide (te.bytes ≤ 1024) = true) (hfr : (freeHp d hp && freeTm d tm) = true) (hd : d < n) (hq : r.length < 137438953472)
    (h : Ops P f R all l k ⟨n, (d, .ref (0, d)) :: tm, (d, .row e te.size (r.map g)) :: hp, up⟩) : Op1 P f R all ⟨some d, .call ⟨.builtin .append, #[x, y], #[t, t]⟩, ty, pos, aft, gd⟩ l k ⟨n, tm, hp, up⟩ := by
  obtain ⟨h1, h2, _⟩ := evE (xs := [(x, .d (.lit nilS)), (y, .d (.slice (r.map g)))]) hev
  simp only [apOK, Bool.and_eq_true, beq_iff_eq, bne_iff_ne] at hap
  have hsm : r.length * te.bytes ≤ 140737488355328 := app_small (by simpa using hbt) (by omega)
  exact o_does (does_append_nil (P := P) (d := d) ht he (s := ⟨n, tm, hp, up⟩) h1 h2 hk (fun y hy => by simp only [List.mem_map] at hy; obtain ⟨v, _, rfl⟩ := hy; exact hgl v) hap.1 hap.2 (by simpa using hsm) (by simp; omega) hfr hd) h
theorem t_appn {id : Nat} {ops : List Oper} {s0 : St} {done : List Eff} {gr : List (Nat × PV)} [ht : HasT P t ti] [he : HasT P e te] (hg : GOK ops.toArray gd gr ⟨n, tm, hp, up⟩) (hev : St.evs ⟨n, tm, hp, up⟩ [x, y] = some [.d (.lit nilS), .d (.slice (r.map g))]) (hk : ti.kind = .slice e) (hap : apOK te = true) (hgl : ∀ v, (g v).length = te.size)
    (hbt : decide (te.bytes ≤ 1024) = true) (hfr : (freeHp d hp && freeTm d tm) = true) (hd : d < n) (hq : r.length < 137438953472)
    (h : Tr P f R id ops k s0 (done ++ [⟨gr ++ rd [(x, .d (.lit nilS)), (y, .d (.slice (r.map g)))], [], [d], [(d, .ref (0, d))], [((0, d), .row e te.size (r.map g))]⟩]) ⟨n, (d, .ref (0, d)) :: tm, (d, .row e te.size (r.map g)) :: hp, up⟩ l) :
    Tr P f R id ops k s0 done ⟨n, tm, hp, up⟩ (⟨some d, .call ⟨.builtin .append, #[x, y], #[t, t]⟩, ty, pos, aft, gd⟩ :: l) := by
  simp only [apOK, Bool.and_eq_true, beq_iff_eq, bne_iff_ne] at hap
  have hsm : r.length * te.bytes ≤ 140737488355328 := app_small (by simpa using hbt) (by omega)
  refine t_mem (xs := [(x, .d (.lit nilS)), (y, .d (.slice (r.map g)))]) (bs := []) hg (fun s hn hx hb hf => ?_) hev rfl hfr rfl h
  exact does_append_nil ht he hx.1 hx.2.1 hk (fun y hy => by simp only [List.mem_map] at hy; obtain ⟨v, _, rfl⟩ := hy; exact hgl v) hap.1 hap.2 (by simpa using hsm) (by simp; omega) hf (by rw [hn]; exact hd)
end

/-- two values compared that are structures -/
theorem v_agg {op : BinOp} {x y : Operand} {tx ty' : TypeId} {cs ds : List D} {r : Bool} (h : ∀ (w : World) (own : Nat → Prop) (us vs : List Value), DR w own (.agg cs) (.agg us.toArray) → DR w own (.agg ds) (.agg vs.toArray) →
    (do eqGuard op tx x y (.agg us.toArray) (.agg vs.toArray); binOp op tx (.agg us.toArray) (.agg vs.toArray) : Sem Value).run P w = .ok (.bool r) w) : Val P (.binOp op tx x y ty') ty [(x, .d (.agg cs)), (y, .d (.agg ds))] [] (B r) := fun d pos aft gd n tm hp up hd hx hb =>
  does_pure rfl hd fun β own a w hr => by
    have h1 := hr.ev hx.1
    have h2 := hr.ev hx.2.1
    generalize hu : a.eval x = u at h1
    generalize hv : a.eval y = v at h2
    cases h1 with
    | d _ _ h1 => cases h2 with
      | d _ _ h2 =>
        cases h1 with
        | agg _ us a1 a2 a3 => cases h2 with
          | agg _ vs b1 b2 b3 =>
            have := h w own us vs (.agg _ us a1 a2 a3) (.agg _ vs b1 b2 b3)
            exact ⟨.bool r, by simp only [execOp, hu, hv]; rw [Sem.run_bind, this]; rfl, .B _⟩
theorem DR.lits {w : World} {own : Nat → Prop} : ∀ {xs us : List Value}, DR w own (.agg (xs.map D.lit)) (.agg us.toArray) → us = xs := by
  intro xs us h
  have key : ∀ (xs us : List Value), (xs.map D.lit).length = us.length → (∀ (j : Nat) (x : D) (v : Value), (xs.map D.lit)[j]? = some x → us[j]? = some v → DR w own x v) → us = xs := by
    intro xs
    induction xs with
    | nil => intro us hl _; cases us <;> simp_all
    | cons x xs ih =>
      intro us hl hd
      cases us with
      | nil => simp at hl
      | cons u us =>
        have h1 := hd 0 (.lit x) u rfl rfl
        have e : u = x := by cases h1; rfl
        rw [e, ih us (by simpa using hl) fun j y v hy hv => hd (j + 1) y v (by simpa using hy) (by simpa using hv)]
  generalize hq : (Value.agg us.toArray) = q at h
  cases h with
  | agg _ vs hl h1 hd =>
    simp at hq
    subst hq
    exact key _ _ hl hd

/-- two results, the first of which lies in a variable -/
theorem res_cell_one {fn : Func} {s : St} {t u ms : Nat} {ty : TypeId} {ti : TI} {x : D} [hty : HasT P ty ti] {cs : List PV} {ds : List D} (h : fn.results = #[.cell t ty, .tmp u]) (ht : look s.tm t = some (.ptr (0, ms) 0)) (hu : look s.tm u = some (.d x)) (hb : look s.hp ms = some (.box cs)) (hds : allD cs = some ds) (hs : ds.length = ti.size) (ha : ti.agg = true) :
    Res P fn s (.v (.tup [.d (.agg ds), .d x])) := fun β own a w hrep => by
  have hp := hrep.tm t _ ht
  have hpu := hrep.tm u _ hu
  obtain ⟨g, tt, cur, hβ, ho, hg, hl0, h1, hd0⟩ := hrep.box (m := (0, ms)) hb
  obtain ⟨hl, _, hd⟩ := allD_rel (own := own) (w := w) (β := β) ⟨hl0, h1, hd0⟩ hds
  refine ⟨.tuple #[.agg cur.toArray, a.tmps.getD u undef], own, ?_, Ext.refl _ _, hrep.heap.outer, ?_⟩
  · generalize hv : a.tmps.getD t undef = v at hp
    cases hp with
    | ptr _ _ g' hg' =>
      rw [hβ] at hg'; simp at hg'; subst hg'
      have hlen : cur.length = ti.size := by rw [← hl, List.length_map, hs]
      have := run_loadVar_cells (P := P) hty g 0 cur w hlen (fun j v hj => by
        rw [Nat.zero_add, cell_of_row w g j _ tt (0, 0) hg]; simpa using hj)
      rcases this with h' | h'
      · have hv2 : a.tmps[t]?.getD undef = .pointer (some ⟨g, 0, none⟩) := by rw [← Array.getD_eq_getD_getElem?]; exact hv
        simp [results, h, hv2, asAddr, h', ha]
      · rw [ha] at h'; cases h'.1
  · refine .v _ _ (PR.low (β := β) (y := .tup [.d (.agg ds), .d x]) (.tup _ [.agg cur.toArray, a.tmps.getD u undef] rfl fun j p v hp hv => ?_) (.tup [.d (.agg ds), .d x]) rfl)
    match j with
    | 0 =>
      simp at hp hv; subst hp hv
      refine .d _ _ (.agg _ _ (by simpa using hl) h1 fun j x v hx hv => ?_)
      have := hd j (.d x) v (by rw [List.getElem?_map, hx]; rfl) hv
      cases this with | d _ _ h => exact h
    | 1 => simp at hp hv; subst hp hv; rw [← Array.getD_eq_getD_getElem?]; exact hpu
    | j + 2 => simp at hp

end Go.Ab
namespace Go.Ab
set_option linter.unusedVariables false

variable {P : Program} {f : FuncId} {R : Post} {k : List Item} {all : Array Oper} {o : Oper} {l : List Oper}
variable {n : Nat} {tm tm' : List (Nat × PV)} {hp hp' : Hp} {up : Hf}

inductive Keep (tm : List (Nat × PV)) : List Nat → List (Nat × PV) → Prop where
  | nil : Keep tm [] []
  | yes {t : Nat} {p : PV} {ks : List Nat} {r : List (Nat × PV)} (h : look tm t = some p) (hr : Keep tm ks r) : Keep tm (t :: ks) ((t, p) :: r)
  | no {t : Nat} {ks : List Nat} {r : List (Nat × PV)} (hr : Keep tm ks r) : Keep tm (t :: ks) r
theorem Keep.sub {ks : List Nat} (h : Keep tm ks tm') : Sub tm' tm := by
  induction h with
  | nil => trivial
  | yes h hr ih => exact ⟨h, ih⟩
  | no hr ih => exact ih

/-- the newest version of each block that is still there -/
inductive KeepH : List Nat → Hp → Hp → Prop where
  | nil {seen : List Nat} : KeepH seen [] []
  | old {seen : List Nat} {t : Nat} {b : Blk} {r r' : Hp} (h : seen.contains t = true) (hr : KeepH seen r r') : KeepH seen ((t, b) :: r) r'
  | gone {seen : List Nat} {t : Nat} {r r' : Hp} (hr : KeepH (t :: seen) r r') : KeepH seen ((t, .gone) :: r) r'
  | new {seen : List Nat} {t : Nat} {b : Blk} {r r' : Hp} (h : seen.contains t = false) (hr : KeepH (t :: seen) r r') : KeepH seen ((t, b) :: r) ((t, b) :: r')
theorem KeepH.look {seen : List Nat} (h : KeepH seen hp hp') : ∀ (t : Nat) (b : Blk), Ab.look hp' t = some b → seen.contains t = false ∧ Ab.look hp t = some b := by
  induction h with
  | nil => intro t b h; simp [Ab.look] at h
  | @old seen t b r r' h hr ih =>
    intro u c hu
    obtain ⟨h1, h2⟩ := ih u c hu
    refine ⟨h1, ?_⟩
    have : t ≠ u := fun e => by subst e; rw [h] at h1; cases h1
    simp [Ab.look, this, h2]
  | @gone seen t r r' hr ih =>
    intro u c hu
    obtain ⟨h1, h2⟩ := ih u c hu
    simp only [List.contains_cons, Bool.or_eq_false_iff, beq_eq_false_iff_ne] at h1
    refine ⟨h1.2, ?_⟩
    simp [Ab.look, Ne.symm h1.1, h2]
  | @new seen t b r r' h hr ih =>
    intro u c hu
    simp only [Ab.look] at hu ⊢
    split at hu
    · rename_i e; subst e; exact ⟨h, by simpa using hu⟩
    · rename_i e
      obtain ⟨h1, h2⟩ := ih u c hu
      simp only [List.contains_cons, Bool.or_eq_false_iff] at h1
      exact ⟨h1.2, by rw [if_neg e]; exact h2⟩

theorem r_keep (ks : List Nat) (h1 : Keep tm ks tm') (h2 : KeepH [] hp hp') (h : Run P f R k ⟨n, tm', hp', up⟩) : Run P f R k ⟨n, tm, hp, up⟩ := by
  refine Run.le (s := ⟨n, tm', hp', up⟩) (fun β own a w hr => ⟨β, rfl, hr.size, hr.defers, fun t p hp => hr.tm t p (h1.sub.get hp), ?_⟩) h
  have key : ∀ m b, lookF (push hp' up) m = some b → lookF (push hp up) m = some b := by
    rintro ⟨d, s⟩ b hb
    cases d with
    | zero => exact (h2.look s b hb).2
    | succ d => exact hb
  exact ⟨fun m b hb => hr.heap.blk m b (key m b hb), fun m1 m2 b1 b2 h1 h2 => hr.heap.inj m1 m2 b1 b2 (key _ _ h1) (key _ _ h2), hr.heap.lt⟩
theorem o_nilk (ks : List Nat) (h1 : Keep tm ks tm') (h2 : KeepH [] hp hp') (h : Run P f R k ⟨n, tm', hp', up⟩) : Ops P f R all [] k ⟨n, tm, hp, up⟩ := o_nil (r_keep ks h1 h2 h)
theorem t_endk {id : Nat} {ops : List Oper} {s0 : St} {done : List Eff} (ks : List Nat) (hmix : P.follows .mixedOrders = true) (hchk : okTrace ops s0 done = true) (h1 : Keep tm ks tm') (h2 : KeepH [] hp hp') (h : Run P f R k ⟨n, tm', hp', up⟩) : Tr P f R id ops k s0 done ⟨n, tm, hp, up⟩ [] :=
  t_end hmix hchk (r_keep ks h1 h2 h)
end Go.Ab
namespace Go.Ab
set_option linter.unusedVariables false

variable {P : Program} {f : FuncId} {R : Post} {k : List Item} {all : Array Oper} {l : List Oper} {s s0 : St} {done : List Eff} {id : Nat} {ops : List Oper}
variable {d : Nat} {dst : Option Nat} {ty : TypeId} {pos : String} {aft : Array Edge} {gd : Option (Nat × Bool)}

theorem k_run (h : Run P f R k s) : Run P f R k s := h
theorem k_ops (h : Ops P f R all l k s) : Ops P f R all l k s := h
theorem k_op1 {o : Oper} (h : Op1 P f R all o l k s) : Op1 P f R all o l k s := h
theorem k_tr (h : Tr P f R id ops k s0 done s l) : Tr P f R id ops k s0 done s l := h
section
variable {x y z : Operand} {t t' : TypeId} {i n : Nat} {op : BinOp} {a b c : Option Operand} {b' : Builtin} {args : Array Operand} {ats : Array TypeId} {lp : Array (Nat × Operand)} {fo : Operand} {bb : Bool}
theorem k_load (h : Op1 P f R all ⟨some d, .load t x, ty, pos, aft, gd⟩ l k s) : Op1 P f R all ⟨some d, .load t x, ty, pos, aft, gd⟩ l k s := h
theorem k_field (h : Op1 P f R all ⟨some d, .fieldAddr t x i, ty, pos, aft, gd⟩ l k s) : Op1 P f R all ⟨some d, .fieldAddr t x i, ty, pos, aft, gd⟩ l k s := h
theorem k_index (h : Op1 P f R all ⟨some d, .indexAddr t x y, ty, pos, aft, gd⟩ l k s) : Op1 P f R all ⟨some d, .indexAddr t x y, ty, pos, aft, gd⟩ l k s := h
theorem k_sindex (h : Op1 P f R all ⟨some d, .index t x y, ty, pos, aft, gd⟩ l k s) : Op1 P f R all ⟨some d, .index t x y, ty, pos, aft, gd⟩ l k s := h
theorem k_bin (h : Op1 P f R all ⟨some d, .binOp op t x y t', ty, pos, aft, gd⟩ l k s) : Op1 P f R all ⟨some d, .binOp op t x y t', ty, pos, aft, gd⟩ l k s := h
theorem k_slice (h : Op1 P f R all ⟨some d, .slice t x a b c, ty, pos, aft, gd⟩ l k s) : Op1 P f R all ⟨some d, .slice t x a b c, ty, pos, aft, gd⟩ l k s := h
theorem k_blt (h : Op1 P f R all ⟨some d, .call ⟨.builtin b', args, ats⟩, ty, pos, aft, gd⟩ l k s) : Op1 P f R all ⟨some d, .call ⟨.builtin b', args, ats⟩, ty, pos, aft, gd⟩ l k s := h
theorem k_call (h : Op1 P f R all ⟨some d, .call ⟨.value fo, args, ats⟩, ty, pos, aft, gd⟩ l k s) : Op1 P f R all ⟨some d, .call ⟨.value fo, args, ats⟩, ty, pos, aft, gd⟩ l k s := h
theorem k_store (h : Op1 P f R all ⟨none, .store t x y, ty, pos, aft, gd⟩ l k s) : Op1 P f R all ⟨none, .store t x y, ty, pos, aft, gd⟩ l k s := h
theorem k_alloc (h : Op1 P f R all ⟨some d, .alloc t, ty, pos, aft, gd⟩ l k s) : Op1 P f R all ⟨some d, .alloc t, ty, pos, aft, gd⟩ l k s := h
theorem k_box (h : Op1 P f R all ⟨some d, .box t x, ty, pos, aft, gd⟩ l k s) : Op1 P f R all ⟨some d, .box t x, ty, pos, aft, gd⟩ l k s := h
theorem k_build (h : Op1 P f R all ⟨some d, .build t lp, ty, pos, aft, gd⟩ l k s) : Op1 P f R all ⟨some d, .build t lp, ty, pos, aft, gd⟩ l k s := h
theorem k_lit (h : Op1 P f R all ⟨some d, .buildSlice t n lp, ty, pos, aft, gd⟩ l k s) : Op1 P f R all ⟨some d, .buildSlice t n lp, ty, pos, aft, gd⟩ l k s := h
theorem k_make (h : Op1 P f R all ⟨some d, .makeSlice t x y, ty, pos, aft, gd⟩ l k s) : Op1 P f R all ⟨some d, .makeSlice t x y, ty, pos, aft, gd⟩ l k s := h
theorem k_conv (h : Op1 P f R all ⟨some d, .convert t t' x, ty, pos, aft, gd⟩ l k s) : Op1 P f R all ⟨some d, .convert t t' x, ty, pos, aft, gd⟩ l k s := h
theorem kt_load (h : Tr P f R id ops k s0 done s (⟨some d, .load t x, ty, pos, aft, gd⟩ :: l)) : Tr P f R id ops k s0 done s (⟨some d, .load t x, ty, pos, aft, gd⟩ :: l) := h
theorem kt_field (h : Tr P f R id ops k s0 done s (⟨some d, .fieldAddr t x i, ty, pos, aft, gd⟩ :: l)) : Tr P f R id ops k s0 done s (⟨some d, .fieldAddr t x i, ty, pos, aft, gd⟩ :: l) := h
theorem kt_index (h : Tr P f R id ops k s0 done s (⟨some d, .indexAddr t x y, ty, pos, aft, gd⟩ :: l)) : Tr P f R id ops k s0 done s (⟨some d, .indexAddr t x y, ty, pos, aft, gd⟩ :: l) := h
theorem kt_sindex (h : Tr P f R id ops k s0 done s (⟨some d, .index t x y, ty, pos, aft, gd⟩ :: l)) : Tr P f R id ops k s0 done s (⟨some d, .index t x y, ty, pos, aft, gd⟩ :: l) := h
theorem kt_bin (h : Tr P f R id ops k s0 done s (⟨some d, .binOp op t x y t', ty, pos, aft, gd⟩ :: l)) : Tr P f R id ops k s0 done s (⟨some d, .binOp op t x y t', ty, pos, aft, gd⟩ :: l) := h
theorem kt_slice (h : Tr P f R id ops k s0 done s (⟨some d, .slice t x a b c, ty, pos, aft, gd⟩ :: l)) : Tr P f R id ops k s0 done s (⟨some d, .slice t x a b c, ty, pos, aft, gd⟩ :: l) := h
theorem kt_blt (h : Tr P f R id ops k s0 done s (⟨some d, .call ⟨.builtin b', args, ats⟩, ty, pos, aft, gd⟩ :: l)) : Tr P f R id ops k s0 done s (⟨some d, .call ⟨.builtin b', args, ats⟩, ty, pos, aft, gd⟩ :: l) := h
theorem kt_call (h : Tr P f R id ops k s0 done s (⟨some d, .call ⟨.value fo, args, ats⟩, ty, pos, aft, gd⟩ :: l)) : Tr P f R id ops k s0 done s (⟨some d, .call ⟨.value fo, args, ats⟩, ty, pos, aft, gd⟩ :: l) := h
theorem kt_store (h : Tr P f R id ops k s0 done s (⟨none, .store t x y, ty, pos, aft, gd⟩ :: l)) : Tr P f R id ops k s0 done s (⟨none, .store t x y, ty, pos, aft, gd⟩ :: l) := h
theorem kt_alloc (h : Tr P f R id ops k s0 done s (⟨some d, .alloc t, ty, pos, aft, gd⟩ :: l)) : Tr P f R id ops k s0 done s (⟨some d, .alloc t, ty, pos, aft, gd⟩ :: l) := h
theorem kt_box (h : Tr P f R id ops k s0 done s (⟨some d, .box t x, ty, pos, aft, gd⟩ :: l)) : Tr P f R id ops k s0 done s (⟨some d, .box t x, ty, pos, aft, gd⟩ :: l) := h
theorem kt_build (h : Tr P f R id ops k s0 done s (⟨some d, .build t lp, ty, pos, aft, gd⟩ :: l)) : Tr P f R id ops k s0 done s (⟨some d, .build t lp, ty, pos, aft, gd⟩ :: l) := h
theorem kt_lit (h : Tr P f R id ops k s0 done s (⟨some d, .buildSlice t n lp, ty, pos, aft, gd⟩ :: l)) : Tr P f R id ops k s0 done s (⟨some d, .buildSlice t n lp, ty, pos, aft, gd⟩ :: l) := h
theorem kt_make (h : Tr P f R id ops k s0 done s (⟨some d, .makeSlice t x y, ty, pos, aft, gd⟩ :: l)) : Tr P f R id ops k s0 done s (⟨some d, .makeSlice t x y, ty, pos, aft, gd⟩ :: l) := h
theorem kt_conv (h : Tr P f R id ops k s0 done s (⟨some d, .convert t t' x, ty, pos, aft, gd⟩ :: l)) : Tr P f R id ops k s0 done s (⟨some d, .convert t t' x, ty, pos, aft, gd⟩ :: l) := h
end
end Go.Ab
namespace Go.Ab
set_option linter.unusedVariables false
variable {P : Program} {f : FuncId} {R : Post} {k : List Item} {n : Nat} {tm : List (Nat × PV)} {hp : Hp} {up : Hf}

theorem r_meetb (id D : Nat) {l : List Oper} (h1 : ∀ b : Bool, Run P f R k ⟨n, (D, B b) :: tm, hp, up⟩) (h2 : (∀ b : Bool, Run P f R k ⟨n, (D, B b) :: tm, hp, up⟩) → Ops P f R l.toArray l k ⟨n, tm, hp, up⟩) :
    Run P f R (.code (.region id l.toArray false) :: k) ⟨n, tm, hp, up⟩ := r_region (h2 h1)
theorem t_meetb (id D : Nat) {ops : List Oper} (h1 : ∀ b : Bool, Run P f R k ⟨n, (D, B b) :: tm, hp, up⟩) (h2 : (∀ b : Bool, Run P f R k ⟨n, (D, B b) :: tm, hp, up⟩) → Tr P f R id ops k ⟨n, tm, hp, up⟩ [] ⟨n, tm, hp, up⟩ ops) :
    Run P f R (.code (.region id ops.toArray true) :: k) ⟨n, tm, hp, up⟩ := r_tr (h2 h1)
/-- the end of such a region -/
theorem r_met {D : Nat} {b : Bool} {tm0 : List (Nat × PV)} {hp0 : Hp} (hm : ∀ b : Bool, Run P f R k ⟨n, (D, B b) :: tm0, hp0, up⟩) (hb : look tm D = some (B b)) (h : SubE tm0 tm) (h' : SubHE hp0 hp) : Run P f R k ⟨n, tm, hp, up⟩ := by
  refine r_less (hm b) ?_ h'
  have := subE h
  simp only [SubE, List.map_cons, hb, List.cons.injEq, true_and] at h ⊢
  exact h
theorem kt_end {ops : List Oper} {s0 s : St} {done : List Eff} {id : Nat} (h : Tr P f R id ops k s0 done s []) : Tr P f R id ops k s0 done s [] := h
theorem ko_nil {all : Array Oper} {s : St} (h : Ops P f R all [] k s) : Ops P f R all [] k s := h
end Go.Ab
