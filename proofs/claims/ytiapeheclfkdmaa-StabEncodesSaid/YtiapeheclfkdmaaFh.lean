/- A law holds for every input; no condition. -/
import Derived.Test.YtiapeheclfkdmaaFg
import Derived.ArgAppend
set_option linter.all false
set_option linter.unusedVariables false
set_option linter.unusedSimpArgs false
namespace Go.Ab
set_option linter.unusedVariables false
set_option linter.unusedSimpArgs false
variable {P : Program} {f : FuncId} {R : Post} {k : List Item} {all : Array Oper} {o : Oper} {l : List Oper}
variable {n : Nat} {tm : List (Nat × PV)} {hp : Hp} {up : Hf} {d : Nat} {ty : TypeId} {pos : String} {aft : Array Edge} {gd : Option (Nat × Bool)} {op : Op} {p : PV}
theorem does_makec {s : St} {t e : TypeId} {ti te : TI} (ht : HasT P t ti) (he : HasT P e te) (hk : ti.kind = .slice e) {x y : Operand} {k1 k2 : IntKind} {a c : Int} (hx : s.ev x = some (I k1 a)) (hy : s.ev y = some (I k2 c)) (h0 : 0 ≤ a) (hac : a ≤ c) (ha : c ≤ 137438953472) (hb : te.bytes ≤ 1024) (hz : te.zero.all (·.oneCell') = true)
    (hz1 : te.zero.length = te.size) (hz2 : te.size ≠ 0) (hf : (freeHp d s.hp && freeTm d s.tm) = true) (hd : d < s.n) :
    Does P ⟨some d, .makeSlice t x y, ty, pos, aft, gd⟩ s (s.app ⟨[], [], [], [(d, .ref (0, d))], [((0, d), .row e te.size (List.replicate a.toNat (te.zero.map litD)))]⟩) := by
  obtain ⟨n, tm, hp, up⟩ := s
  intro β own ac w hr
  obtain ⟨i, u, z, hi, hu, hiz, his, hib, hku, hzc, _⟩ := he.get
  have hsm := app_small (b := te.bytes) (c := c.toNat) hb (by omega)
  have hby : (i.bytes : Int) * c ≤ 281474976710656 := by
    have h1 : (te.bytes : Int) * c = ((c.toNat * te.bytes : Nat) : Int) := by rw [Int.natCast_mul, Int.toNat_of_nonneg (by omega), Int.mul_comm]
    rw [hib, h1]; omega
  have hrun := run_make (P := P) w t e i z (ht.slice hk) hi hiz k1 k2 a c h0 hac hby (by omega)
  have hE := Ext.alloc w own (.cells (madeCells z.cells (c.toNat * i.size)) e)
  have hzsz : z.cells.size = te.size := by rw [← hz1, ← hzc]; simp
  have hget : ∀ i' j, i' < c.toNat → j < te.size → (madeCells z.cells (c.toNat * i.size)).toList[i' * te.size + j]? = te.zero[j]? := by
    intro i' j hi' hj
    have hlt : i' * te.size + j < c.toNat * te.size := by
      have : (i' + 1) * te.size ≤ c.toNat * te.size := Nat.mul_le_mul_right _ hi'
      rw [Nat.add_mul] at this; omega
    rw [his]
    simp only [madeCells, Array.getElem?_toList, Array.getElem?_map]
    rw [Array.getElem?_range]
    simp only [hlt, if_true, Option.map_some, hzsz]
    have hmod : (i' * te.size + j) % te.size = j := by rw [Nat.add_comm, Nat.add_mul_mod_self_right]; exact Nat.mod_eq_of_lt hj
    rw [hmod, ← hzc, Array.getElem?_toList, getElem!_pos z.cells j (by omega), Array.getElem?_eq_getElem (by omega)]
  have hlen : (madeCells z.cells (c.toNat * i.size)).toList.length = c.toNat * te.size := by simp [size_madeCells, his]
  have hle : a.toNat ≤ c.toNat := by omega
  have hmul : a.toNat * te.size ≤ c.toNat * te.size := Nat.mul_le_mul_right _ hle
  have hlent : ((madeCells z.cells (c.toNat * i.size)).toList.take (a.toNat * te.size)).length = a.toNat * te.size := by rw [List.length_take, hlen]; omega
  have hgett : ∀ i' j, i' < a.toNat → j < te.size → ((madeCells z.cells (c.toNat * i.size)).toList.take (a.toNat * te.size))[i' * te.size + j]? = te.zero[j]? := by
    intro i' j hi' hj
    have hlt : i' * te.size + j < a.toNat * te.size := by
      have : (i' + 1) * te.size ≤ a.toNat * te.size := Nat.mul_le_mul_right _ hi'
      rw [Nat.add_mul] at this; omega
    rw [List.getElem?_take, if_pos hlt]
    exact hget i' j (by omega) hj
  have hrow : RowR (w.alloc (.cells (madeCells z.cells (c.toNat * i.size)) e)) (fun g => own g ∨ g = w.heap.size) te.size (List.replicate a.toNat (te.zero.map litD)) ((madeCells z.cells (c.toNat * i.size)).toList.take (a.toNat * te.size)) := by
    refine ⟨fun x hx => ?_, by rw [List.length_replicate]; exact hlent, fun v hv => ?_, fun i' x hx' j y hy' => ?_⟩
    · rw [List.mem_replicate] at hx; rw [hx.2]; simp [hz1]
    · obtain ⟨j, hj⟩ := List.getElem?_of_mem hv
      have hjl := (List.getElem?_eq_some_iff.1 hj).1
      rw [hlent] at hjl
      have h2 := hgett (j / te.size) (j % te.size) ((Nat.div_lt_iff_lt_mul (by omega)).2 hjl) (Nat.mod_lt _ (by omega))
      rw [Nat.div_add_mod' j te.size, hj] at h2
      rw [List.all_eq_true] at hz
      exact hz v (List.mem_of_getElem? h2.symm)
    · have hi'' := (List.getElem?_eq_some_iff.1 hx').1
      rw [List.length_replicate] at hi''
      rw [List.getElem?_replicate, if_pos hi''] at hx'
      simp at hx'; subst hx'
      rw [List.getElem?_map] at hy'
      cases hq : te.zero[j]? with
      | none => rw [hq] at hy'; cases hy'
      | some u =>
        rw [hq] at hy'; simp at hy'; subst hy'
        refine ⟨u, by rw [hgett i' j hi'' (by have := (List.getElem?_eq_some_iff.1 hq).1; omega)]; exact hq, ?_⟩
        rw [List.all_eq_true] at hz
        exact .litD (hz u (List.mem_of_getElem? hq))
  have hin := hr.install (d := d) hf hE (fun g hg => by rcases hg with hg | rfl; exact Nat.lt_of_lt_of_le (hr.heap.lt g hg) (by simp); simp) (v := .slice (some ⟨w.heap.size, 0, none⟩) a.toNat c.toNat) (b := .row e te.size (List.replicate a.toNat (te.zero.map litD)))
    (alloc_keep hr.heap _ _ _ rfl)
    (.row _ e te.size _ _ (fun g hg => by simp [Value.ownBlock] at hg; exact .inr hg.symm) (by omega)
      ⟨by rw [List.length_replicate]; exact hlent, .inr ⟨w.heap.size, c.toNat, _, by rw [List.length_replicate], Nat.zero_le _, alloc_new w _, by rw [List.length_replicate]; exact hle, by unfold maxLen; omega, hlen, by rw [List.length_replicate]⟩⟩ hrow)
  refine ⟨_, .slice (some ⟨w.heap.size, 0, none⟩) a.toNat c.toNat, _, setβ β d (.slice (some ⟨w.heap.size, 0, none⟩) a.toNat c.toNat), _, ?_, .inl rfl, ?_, hE, outn_setβ _ _ _⟩
  · simp only [execOp, (hr.ev hx).lit, (hr.ev hy).lit]
    simp [hrun]
  · have hp' := PR.ref (β := setβ β d (.slice (some ⟨w.heap.size, 0, none⟩) a.toNat c.toNat)) (w := w.alloc (.cells (madeCells z.cells (c.toNat * i.size)) e)) (own := fun g => own g ∨ g = w.heap.size) (0, d)
    rw [setβ_same] at hp'
    exact hin.put (dst := some d) (p := .ref (0, d)) (by simpa [St.fits] using hd) hp'

section
variable {t e : TypeId} {ti te : TI} {x y : Operand} {k1 k2 : IntKind} {a c : Int} {xs : List (List D)}
theorem o_makec [ht : HasT P t ti] [he : HasT P e te] (hk : ti.kind = .slice e) (hev : St.evs ⟨n, tm, hp, up⟩ [x, y] = some [I k1 a, I k2 c]) (h0 : 0 ≤ a) (hac : a ≤ c) (ha : c ≤ 137438953472) (hb : decide (te.bytes ≤ 1024) = true) (hz : litOK te 0 = true) (hfr : (freeHp d hp && freeTm d tm) = true) (hd : d < n)
    (hxs : List.replicate a.toNat (te.zero.map litD) = xs) (h : Ops P f R all l k ⟨n, (d, .ref (0, d)) :: tm, (d, .row e te.size xs) :: hp, up⟩) : Op1 P f R all ⟨some d, .makeSlice t x y, ty, pos, aft, gd⟩ l k ⟨n, tm, hp, up⟩ := by
  obtain ⟨h1, h2, _⟩ := evE (xs := [(x, I k1 a), (y, I k2 c)]) hev
  simp only [litOK, Bool.and_eq_true, beq_iff_eq, bne_iff_ne] at hz
  subst hxs
  exact o_does (does_makec (P := P) (d := d) ht he hk (s := ⟨n, tm, hp, up⟩) h1 h2 h0 hac ha (by simpa using hb) hz.1.1.1 hz.1.1.2 hz.1.2 hfr hd) h
end
end Go.Ab
namespace Go.Ab
set_option linter.unusedVariables false
set_option linter.unusedSimpArgs false
variable {P : Program} {f : FuncId} {R : Post} {k : List Item} {all : Array Oper} {o : Oper} {l : List Oper}
variable {n : Nat} {tm : List (Nat × PV)} {hp : Hp} {up : Hf} {d : Nat} {ty : TypeId} {pos : String} {aft : Array Edge} {gd : Option (Nat × Bool)} {op : Op} {p : PV}
theorem rep_rsub0 {β : Nm → Value} {own : Nat → Prop} {a : Act} {w : World} {ms tx e' kk : Nat} {ys : List (List D)} (hr : Rep ⟨n, tm, hp, up⟩ β own a w) (hb : look hp ms = some (.row e' kk ys)) (hx : look tm tx = some (.ref (0, ms))) :
    Rep ⟨n, (tx, .rsub (0, ms) kk 0 ys.length) :: tm, hp, up⟩ β own a w := by
  refine ⟨hr.size, hr.defers, fun t q hq => ?_, hr.heap⟩
  simp only [look] at hq
  split at hq
  · rename_i e
    subst e
    simp at hq; subst hq
    have h1 := hr.tm tx _ hx
    obtain ⟨ad, cap, hv, hc⟩ := hr.rowv (m := (0, ms)) (show rawF ⟨n, tm, hp, up⟩ (0, ms) = some (.row e' kk ys) from hb)
    generalize a.tmps.getD tx undef = v at h1
    cases h1 with
    | ref _ =>
      rw [hv]
      have := PR.rsub (β := β) (w := w) (own := own) (0, ms) kk 0 ys.length ys.length cap ad hv (by omega) hc
      have e2 : (if cap = 0 then ad else ad.map (·.add (0 * kk))) = ad := by
        split
        · rfl
        · cases ad with
          | none => rfl
          | some x => cases x; simp [Addr.add]
      rw [e2] at this
      simpa using this
  · exact hr.tm t q hq
theorem o_copyd {tx : Nat} {y : Operand} {t e : TypeId} {ti te : TI} [ht : HasT P t ti] [he : HasT P e te] {ms e' kk : Nat} {ys zs : List (List D)} (hk : ti.kind = .slice e) (hev : St.evs ⟨n, tm, hp, up⟩ [.tmp tx, y] = some [.ref (0, ms), .d (.slice zs)]) (hb : look hp ms = some (.row e' kk ys)) (hkk : te.size = kk) (hd : d < n)
    (hy2 : St.ev ⟨n, (tx, .rsub (0, ms) kk 0 ys.length) :: tm, hp, up⟩ y = some (.d (.slice zs))) (hlen : ys.length = zs.length) (hz : ∀ y ∈ zs, y.length = kk) (h : Ops P f R all l k ⟨n, (d, I .i64 zs.length) :: (tx, .rsub (0, ms) kk 0 ys.length) :: tm, (ms, .row e' kk zs) :: hp, up⟩) :
    Op1 P f R all ⟨some d, .call ⟨.builtin .copy, #[.tmp tx, y], #[t, t]⟩, ty, pos, aft, gd⟩ l k ⟨n, tm, hp, up⟩ := by
  obtain ⟨hx, hy, _⟩ := evE (xs := [(.tmp tx, .ref (0, ms)), (y, .d (.slice zs))]) hev
  have hx' : look tm tx = some (.ref (0, ms)) := hx
  have hsp : splice ys 0 zs = zs := splice_all ys zs hlen.symm
  intro i rest ho hrest β own a w hrep
  refine (o_does (does_copy (P := P) (d := d) (t2 := t) (zs := zs) (m := (0, ms)) (lo := 0) (len := ys.length) ht he hk (s := ⟨n, (tx, .rsub (0, ms) kk 0 ys.length) :: tm, hp, up⟩) (by simp [St.ev, look]) hb hkk hd (by omega) rfl fun β own a w hr => ?_) ?_ : Op1 P f R all _ l k ⟨n, (tx, .rsub (0, ms) kk 0 ys.length) :: tm, hp, up⟩) i rest ho hrest β own a w (rep_rsub0 hrep hb hx')
  · have h1 := hr.ev hy2
    generalize hv : a.eval y = v at h1
    cases h1 with
    | d _ _ h1 =>
      by_cases hne : zs = []
      · subst hne
        obtain ⟨ad, cap, rfl⟩ := h1.slice_len
        exact ⟨ad, 0, cap, [], rfl, by simp, ⟨by simp, by simp, by simp, by simp⟩, fun h => absurd rfl h⟩
      · obtain ⟨ad, cap, us, rfl, h2, h3⟩ := src_cells h1 hz hne
        exact ⟨some ad, zs.length, cap, us, rfl, by rw [hlen]; exact (Nat.min_self _).symm, h2, fun _ => ⟨ad, rfl, h3⟩⟩
  · rw [hsp]; exact h
end Go.Ab
namespace Go.Ab
set_option linter.unusedVariables false
set_option linter.unusedSimpArgs false
variable {P : Program} {n : Nat} {tm : List (Nat × PV)} {hp : Hp} {up : Hf} {d : Nat} {ty : TypeId} {pos : String} {aft : Array Edge} {gd : Option (Nat × Bool)}
theorem d_convW {x : Operand} {src dst : TypeId} {k k' : IntKind} {b c : Int} {t1 t2 : TI} [h1 : HasT P src t1] [h2 : HasT P dst t2] (hk : t2.kind = .int k') (hk1 : t1.kind = .int k) (hx : St.ev ⟨n, tm, hp, up⟩ x = some (I k b)) (hd : d < n) (hr : k'.wrap b = c) :
    Does P ⟨some d, .convert src dst x, ty, pos, aft, gd⟩ ⟨n, tm, hp, up⟩ ⟨n, (d, I k' c) :: tm, hp, up⟩ :=
  does_pure rfl hd fun β own a w hrep => ⟨.int k' c, by
    simp [execOp, (hrep.ev hx).lit, convert, run_underlying (h2.int hk), run_underlying (h1.int hk1), Conv.intToInt, hr], .I _ _⟩
theorem v_convW {x : Operand} {src dst : TypeId} {k k' : IntKind} {b c : Int} {t1 t2 : TI} [h1 : HasT P src t1] [h2 : HasT P dst t2] (hk : t2.kind = .int k') (hk1 : t1.kind = .int k) (hr : k'.wrap b = c) :
    Val P (.convert src dst x) ty [(x, I k b)] [] (I k' c) := fun d pos aft gd n tm hp up hd hx hb => d_convW hk hk1 hx.1 hd hr
def comV (k : IntKind) (a : Int) : Int := xorV k (if k.signed = true then -1 else k.max) a
theorem v_com {x : Operand} {tx : TypeId} {k : IntKind} {a : Int} : Val P (.unOp .xor tx x) ty [(x, I k a)] [] (I k (comV k a)) := fun d pos aft gd n tm hp up hd hx hb =>
  does_pure rfl hd fun β own ac w hrp => ⟨.int k (comV k a), by simp [execOp, (hrp.ev hx.1).lit, Op.unary, Op.intBits, xorV, comV], .I _ _⟩
end Go.Ab
namespace Go.Ab
set_option linter.unusedVariables false
set_option linter.unusedSimpArgs false
variable {P : Program} {f : FuncId} {R : Post} {k : List Item} {all : Array Oper} {o : Oper} {l : List Oper}
variable {n : Nat} {tm : List (Nat × PV)} {hp : Hp} {up : Hf} {d : Nat} {ty : TypeId} {pos : String} {aft : Array Edge} {gd : Option (Nat × Bool)} {op : Op} {p : PV}
theorem does_append_full {s : St} {t e : TypeId} {ti te : TI} (ht : HasT P t ti) (he : HasT P e te) {x y : Operand} {bs ys : List (List D)} (hx : s.ev x = some (.full bs)) (hy : s.ev y = some (.d (.slice ys))) (hne : ys ≠ [])
    (hk : ti.kind = .slice e) (hbs : ∀ y ∈ bs, y.length = te.size) (hys : ∀ y ∈ ys, y.length = te.size) (hz : te.zero.length = te.size) (hz0 : te.size ≠ 0) (hsm : (bs.length + ys.length) * te.bytes ≤ 140737488355328) (hsm2 : bs.length + ys.length ≤ 137438953472)
    (hf : (freeHp d s.hp && freeTm d s.tm) = true) (hd : d < s.n) :
    Does P ⟨some d, .call ⟨.builtin .append, #[x, y], #[t, t]⟩, ty, pos, aft, gd⟩ s (s.app ⟨[], [], [], [(d, .ref (0, d))], [((0, d), .row e te.size (bs ++ ys))]⟩) := by
  obtain ⟨n, tm, hp, up⟩ := s
  simp only at hf hd
  intro β own a w hr
  have hyv := hr.ev hy
  have hxv := hr.ev hx
  generalize hu : a.eval y = u at hyv
  generalize hv : a.eval x = v at hxv
  cases hyv with
  | d _ _ hyd =>
  cases hxv with
  | full _ ba hbd =>
    have hk0 : 0 < te.size := by omega
    obtain ⟨i, uu, z, hi, huu, hzi, hs, hb', hkk, hzz, _⟩ := he.get
    have hzc : z.cells.size = te.size := by rw [← Array.length_toList, hzz]; exact hz
    obtain ⟨ad, cap, us, rfl, hus, hcells⟩ := src_cells hyd hys hne
    have hyl : 0 < ys.length := List.length_pos_iff.2 hne
    have main : ∃ v' w' vs, (Builtin.append_ #[t, t] ty #[.slice ba bs.length bs.length, .slice (some ad) ys.length cap]).run P w = .ok v' w' ∧ w'.ownsRow 0 e te.size v' (bs.length + ys.length) vs ∧ w.grownBy w' none ∧ RowR w own te.size (bs ++ ys) vs ∧ (∀ g, v'.ownBlock = some g → w.heap.size ≤ g) := by
      have grow : ∀ (b0 : Addr) (olds : List Value), RowR w own te.size bs olds → (∀ j u, olds[j]? = some u → w.cell? (b0.add j) = some u) → ∃ v' w' vs, (Builtin.append_ #[t, t] ty #[.slice (some b0) bs.length bs.length, .slice (some ad) ys.length cap]).run P w = .ok v' w' ∧ w'.ownsRow 0 e te.size v' (bs.length + ys.length) vs ∧ w.grownBy w' none ∧ RowR w own te.size (bs ++ ys) vs ∧ (∀ g, v'.ownBlock = some g → w.heap.size ≤ g) := by
        intro b0 olds ho hoc
        obtain ⟨v', w', hrun, r1, r2⟩ := run_append_arg_grows (P := P) w t ty e i z te.size te.bytes (ht.slice hk) hi hzi hs hb' hzc hk0 b0 bs.length bs.length olds ho.2.1 hoc ad ys.length cap us hus.2.1 hcells (by omega) (by unfold maxLen; omega) hsm
        refine ⟨v', w', olds ++ us, hrun, ⟨r1.1, r1.2.imp id fun ⟨g, cap', cur, q1, q2, q3⟩ => ⟨g, cap', cur, q1, Nat.zero_le _, q3⟩⟩, r2, ho.app hus, fun g hg => ?_⟩
        rcases r1.2 with ⟨q1, _⟩ | ⟨g', cap', cur, q1, q2, q3⟩
        · rw [q1] at hg; simp [Value.ownBlock, nilS] at hg
        · rw [q1] at hg; simp [Value.ownBlock] at hg; omega
      by_cases hb0 : bs = []
      · subst hb0
        cases ba with
        | none =>
          obtain ⟨v', w', hrun, h1, h2, h3⟩ := run_append_where (P := P) w 0 t ty e i z te.size te.bytes (ht.slice hk) hi hzi hs hb' hzc hk0 nilS 0 [] (World.ownsRow_nil w 0 e te.size) ad ys.length cap us hus.2.1 hcells hus.2.2.1
            (by unfold maxLen; omega) (by simpa using hsm) (Nat.zero_le _) (by omega)
          refine ⟨v', w', us, hrun, by simpa using h1, h2, by simpa using hus, fun g hg => ?_⟩
          rcases h3 with h3 | h3
          · rw [h3] at hg; simp [Value.ownBlock, nilS] at hg
          · rw [h3] at hg; simp at hg; omega
        | some b0 => exact grow b0 [] ⟨by simp, by simp, by simp, by simp⟩ (by simp)
      · obtain ⟨ad2, cap2, olds, hq, hol, hoc⟩ := src_cells hbd hbs hb0
        simp at hq
        obtain ⟨rfl, _⟩ := hq
        exact grow ad2 olds hol hoc
    obtain ⟨v', w', vs, hrun, hown', hgrow, hvs, hwhere⟩ := main
    have hblk := blockOf_row hown'
    have hE : Ext w own w' (fun g => own g ∨ v'.ownBlock = some g) := by
      refine ⟨hgrow.os, hgrow.tape, hgrow.output, hgrow.size, fun b hb hno => hgrow.block b hb (by simp), fun b hb hno => ?_⟩
      rintro (h | h)
      · exact hno h
      · have := hwhere b h; omega
    have hrow := hvs.mono hE
    have hin := hr.install (d := d) (b := .row e te.size (bs ++ ys)) (v := v') (own' := fun g => own g ∨ v'.ownBlock = some g) hf hE
      (fun g hg => by
        rcases hg with hg | hg
        · exact Nat.lt_of_lt_of_le (hr.heap.lt g hg) hgrow.size
        · exact (hown'.lt g hg).2)
      (fun q c hq hl hqd g hg => by
        have hog := (hr.heap.blk q c hq).block_lt hl hg
        refine ⟨hgrow.block g (hr.heap.lt g hog) (by simp), .inl hog, fun _ e => ?_⟩
        rw [hblk] at e
        have h1 := hwhere g e
        have := hr.heap.lt g hog
        omega)
      (.row v' e te.size _ _ (fun g hg => .inr hg) hk0 (by rw [List.length_append]; exact hown') hrow)
    refine ⟨_, v', w', setβ β d v', _, ?_, .inl rfl, ?_, hE, outn_setβ _ _ _⟩
    · simp [execOp, resolve, invoke, builtin, hv, hu, hrun]
    · have hp := PR.ref (β := setβ β d v') (w := w') (own := fun g => own g ∨ v'.ownBlock = some g) (0, d)
      rw [setβ_same] at hp
      exact hin.put (dst := some d) (p := .ref (0, d)) (by simpa [St.fits] using hd) hp
end Go.Ab
namespace Go.Ab
set_option linter.unusedVariables false
set_option linter.unusedSimpArgs false
variable {P : Program} {f : FuncId} {R : Post} {k : List Item} {all : Array Oper} {o : Oper} {l : List Oper}
variable {n : Nat} {tm : List (Nat × PV)} {hp : Hp} {up : Hf} {d : Nat} {ty : TypeId} {pos : String} {aft : Array Edge} {gd : Option (Nat × Bool)} {op : Op} {p : PV}
section
variable {t e : TypeId} {ti te : TI} {x y : Operand} {α : Type} {q r : List α} {g : α → List D}
theorem t_appf {id : Nat} {ops : List Oper} {s0 : St} {done : List Eff} {gr : List (Nat × PV)} [ht : HasT P t ti] [he : HasT P e te] (hg : GOK ops.toArray gd gr ⟨n, tm, hp, up⟩) (hev : St.evs ⟨n, tm, hp, up⟩ [x, y] = some [.full (q.map g), .d (.slice (r.map g))]) (hne : r ≠ []) (hk : ti.kind = .slice e) (hap : apOK te = true) (hgl : ∀ v, (g v).length = te.size)
    (hbt : decide (te.bytes ≤ 1024) = true) (hfr : (freeHp d hp && freeTm d tm) = true) (hd : d < n) (hq : q.length + r.length < 137438953472)
    (h : Tr P f R id ops k s0 (done ++ [⟨gr ++ rd [(x, .full (q.map g)), (y, .d (.slice (r.map g)))], [], [d], [(d, .ref (0, d))], [((0, d), .row e te.size ((q ++ r).map g))]⟩]) ⟨n, (d, .ref (0, d)) :: tm, (d, .row e te.size ((q ++ r).map g)) :: hp, up⟩ l) :
    Tr P f R id ops k s0 done ⟨n, tm, hp, up⟩ (⟨some d, .call ⟨.builtin .append, #[x, y], #[t, t]⟩, ty, pos, aft, gd⟩ :: l) := by
  simp only [apOK, Bool.and_eq_true, beq_iff_eq, bne_iff_ne] at hap
  have hsm : (q.length + r.length) * te.bytes ≤ 140737488355328 := app_small (by simpa using hbt) (by omega)
  have hl : ∀ (l : List α), ∀ y ∈ l.map g, y.length = te.size := fun l y hy => by simp only [List.mem_map] at hy; obtain ⟨v, _, rfl⟩ := hy; exact hgl v
  rw [List.map_append] at h
  refine t_mem (xs := [(x, .full (q.map g)), (y, .d (.slice (r.map g)))]) (bs := []) hg (fun s hn hx hb hf => ?_) hev rfl hfr rfl h
  exact does_append_full ht he hx.1 hx.2.1 (by simpa using hne) hk (hl q) (hl r) hap.1 hap.2 (by simpa using hsm) (by simp; omega) hf (by rw [hn]; exact hd)
/-- a slice of data up to its length, without spare capacity -/
theorem v_slice3 {k1 k2 : IntKind} {z : Operand} {ys : List (List D)} [ht : HasT P t ti] [he : HasT P e te] (hk : ti.kind = .slice e) : Val P (.slice t x none (some y) (some z)) ty [(x, .d (.slice ys)), (y, I k1 (ys.length : Nat)), (z, I k2 (ys.length : Nat))] [] (.full ys) := fun d pos aft gd n tm hp up hd hx _ =>
  does_pure rfl hd fun β own a w hr => by
    have h1 := hr.ev hx.1
    have h2 := (hr.ev hx.2.1).lit
    have h3 := (hr.ev hx.2.2.1).lit
    generalize hv : a.eval x = v at h1
    cases h1 with
    | d _ _ h1 =>
      cases h1 with
      | nil aa cap =>
        refine ⟨.slice aa 0 0, ?_, .full [] aa (.nil aa 0)⟩
        simp only [execOp, hv, h2, h3, Option.map_some, Option.map_none]
        simp [Instr.sliceAt, Instr.slice, Instr.sliceBounds, Instr.sliceBound, asIntOf, run_underlying (ht.slice hk), he.sizeOf]
      | slice _ g o cap kk c hc hown hlt hkk hcell hdd =>
        refine ⟨.slice (some ⟨g, o, none⟩) ys.length ys.length, ?_, .full ys _ (.slice ys g o ys.length kk c (Nat.le_refl _) hown hlt hkk hcell hdd)⟩
        have hcc : ((ys.length : Nat) : Int) ≤ (cap : Int) := by omega
        simp only [execOp, hv, h2, h3, Option.map_some, Option.map_none]
        simp [Instr.sliceAt, Instr.slice, Instr.sliceBounds, Instr.sliceBound, asIntOf, run_underlying (ht.slice hk), he.sizeOf, hcc, hc, Addr.add]
end
end Go.Ab
namespace Go.Ab
set_option linter.unusedVariables false
set_option linter.unusedSimpArgs false
variable {P : Program} {f : FuncId} {R : Post} {k : List Item} {all : Array Oper} {o : Oper} {l : List Oper}
variable {n : Nat} {tm : List (Nat × PV)} {hp : Hp} {up : Hf} {d : Nat} {ty : TypeId} {pos : String} {aft : Array Edge} {gd : Option (Nat × Bool)} {op : Op} {p : PV}

theorem run_builda {t e : TypeId} {ti te : TI} {N : Nat} (ht : HasT P t ti) (he : HasT P e te) (hk : ti.kind = .array N e) (hz : ti.zero.all (·.oneCell') = true) {β : Nm → Value} {w : World} {own : Nat → Prop} (parts : Array (Nat × Value)) (qs : List (Nat × List PV)) {cs : List PV}
    (hl : qs.length = parts.toList.length) (hp : ∀ (j : Nat) (q : Nat × List PV) (u : Nat × Value), qs[j]? = some q → parts.toList[j]? = some u → q.1 = u.1 ∧ CR β w own q.2 u.2.cells.toList)
    (hf : fillP (fun i => some (i * te.size, te.size)) (zeroP ti.zero) qs = some cs) : ∃ vs : List Value, (Instr.build t parts).run P w = .ok (.agg vs.toArray) w ∧ CR β w own cs vs := by
  obtain ⟨vs, h1, h2⟩ := fill_rel qs parts.toList _ cs ti.zero hl hp (zeroP_rel ti.zero hz) hf
  obtain ⟨z, hzz, hzr⟩ := ht.zeroValue
  refine ⟨vs, ?_, h2⟩
  have hfill : Instr.fill (fun i : Nat => some (i * te.size, te.size)) z.cells parts.toList = some vs.toArray := by rw [← h1, ← hzz]
  simp only [Instr.build, Sem.run_bind, hzr, Result.andThen_ok, run_underlying (ht.array hk), he.sizeOf, hfill]
  simp

/-- an array literal -/
theorem v_builda {t e : TypeId} {ti te : TI} {N : Nat} {l : List (Nat × Operand)} {ps : List PV} {qs : List (Nat × List PV)} {cs : List PV} {p : PV} [ht : HasT P t ti] [he : HasT P e te] (hk : ti.kind = .array N e) (hq : partCells l ps = some qs) (hn : noRefs ps = true) (hf : fillP (fun i => some (i * te.size, te.size)) (zeroP ti.zero) qs = some cs) (hm : mk cs = p)
    (hz : ti.zero.all (·.oneCell') = true) : Val P (.build t l.toArray) ty (partEvs l ps) [] p :=
  fun d pos aft gd n tm hp up hd hx hb => let ⟨hq, hok⟩ := parts_of hx hq hn; does_pure rfl hd fun β own a w hr => by
    obtain ⟨h1, h2⟩ := hr.parts l qs hq hok
    have hl : (l.toArray.map fun x => (x.1, a.eval x.2)).toList = l.map fun x => (x.1, a.eval x.2) := by simp
    obtain ⟨vs, hrun, hcr⟩ := run_builda (P := P) ht he hk hz (β := β) (w := w) (own := own) (l.toArray.map fun x => (x.1, a.eval x.2)) qs (by rw [hl]; exact h1) (by rw [hl]; exact h2) hf
    refine ⟨_, ?_, hm ▸ mk_rel hcr⟩
    simp only [execOp]
    have : (Array.map (fun x : Nat × Operand => match x with | (i, x) => (i, a.eval x)) l.toArray) = l.toArray.map fun x => (x.1, a.eval x.2) := rfl
    rw [this, Sem.run_bind, hrun]
    rfl

section
variable {t e : TypeId} {ti te : TI} {N : Nat} {lp : List (Nat × Operand)} {ps : List PV} {qs : List (Nat × List PV)} {cs : List PV} {p : PV}
theorem o_builda [ht : HasT P t ti] (hk : ti.kind = .array N e) [he : HasT P e te] (hev : St.evs ⟨n, tm, hp, up⟩ (lp.map (·.2)) = some ps) (hq : partCells lp ps = some qs) (hn : noRefs ps = true) (hf : fillP (fun i => some (i * te.size, te.size)) (zeroP ti.zero) qs = some cs) (hm : mk cs = p)
    (hz : ti.zero.all (·.oneCell') = true) (hd : d < n) (h : Ops P f R all l k ⟨n, (d, p) :: tm, hp, up⟩) : Op1 P f R all ⟨some d, .build t lp.toArray, ty, pos, aft, gd⟩ l k ⟨n, tm, hp, up⟩ :=
  o_val (v_builda hk hq hn hf hm hz) (partEvs_of hev) rfl hd h
theorem t_builda {id : Nat} {ops : List Oper} {s0 : St} {done : List Eff} {gr : List (Nat × PV)} [ht : HasT P t ti] (hg : GOK ops.toArray gd gr ⟨n, tm, hp, up⟩) (hk : ti.kind = .array N e) [he : HasT P e te] (hev : St.evs ⟨n, tm, hp, up⟩ (lp.map (·.2)) = some ps) (hq : partCells lp ps = some qs) (hn : noRefs ps = true)
    (hf : fillP (fun i => some (i * te.size, te.size)) (zeroP ti.zero) qs = some cs) (hm : mk cs = p) (hz : ti.zero.all (·.oneCell') = true) (hd : d < n)
    (h : Tr P f R id ops k s0 (done ++ [⟨gr ++ rd (partEvs lp ps), [], [], [(d, p)], []⟩]) ⟨n, (d, p) :: tm, hp, up⟩ l) : Tr P f R id ops k s0 done ⟨n, tm, hp, up⟩ (⟨some d, .build t lp.toArray, ty, pos, aft, gd⟩ :: l) :=
  t_val (v_builda hk hq hn hf hm hz) hg (partEvs_of hev) rfl hd h
end
theorem v_slice3m {t e : TypeId} {ti te : TI} {α : Type} {q : List α} {g : α → List D} {k1 k2 : IntKind} {x y z : Operand} [ht : HasT P t ti] [he : HasT P e te] (hk : ti.kind = .slice e) : Val P (.slice t x none (some y) (some z)) ty [(x, .d (.slice (q.map g))), (y, I k1 (q.length : Nat)), (z, I k2 (q.length : Nat))] [] (.full (q.map g)) := by
  have := v_slice3 (P := P) (ty := ty) (x := x) (y := y) (z := z) (k1 := k1) (k2 := k2) (ys := q.map g) (t := t) hk
  rwa [List.length_map] at this
/-- the whole of an array that does not change, as a slice -/
theorem v_aslice {t e : TypeId} {ti te : TI} {N : Nat} {x : Operand} {ds : List D} [ht : HasT P t ti] [he : HasT P e te] (hk : ti.kind = .array N e) (hs : te.size = 1) (hl : ds.length = N) : Val P (.slice t x none none none) ty [(x, .eptr ds)] [] (.d (.slice (ds.map fun y => [y]))) :=
  fun d pos aft gd n tm hp up hd hx hb => does_pure rfl hd fun β own a w hr => by
    have h := hr.ev hx.1
    generalize hv : a.eval x = v at h
    cases h with
    | eptr _ g o c h1 h2 h3 h4 =>
      refine ⟨.slice (some ⟨g, o, none⟩) N N, ?_, .d _ _ ?_⟩
      · simp only [execOp, hv, Option.map_none]
        simp [Instr.sliceAt, Instr.sureAddr, Instr.sliceBounds, Instr.sliceBound, run_underlying (ht.array hk), he.sizeOf, Addr.add]
      · have := DR.slice (w := w) (own := own) (ds.map fun y => [y]) g o N 1 (fun i j => c (i + j)) (by simp [hl]) h1 h2 (by simp) (fun i hi j hj => by
          obtain rfl : j = 0 := by omega
          have := h3 i (by simpa using hi)
          simpa using this) (fun i x hi j y hj => by
          simp only [List.getElem?_map, Option.map_eq_some_iff] at hi
          obtain ⟨y', hy', rfl⟩ := hi
          obtain rfl : j = 0 := by have := (List.getElem?_eq_some_iff.1 hj).1; simp at this; omega
          simp at hj; subst hj
          simpa using h4 i y' hy')
        rw [List.length_map, hl] at this
        exact this

/-- a slice of data read as an array -/
theorem v_toarr {t e : TypeId} {ti : TI} {N : Nat} {x : Operand} {α : Type} {q : List α} {g : α → D} [ht : HasT P t ti] (hk : ti.kind = .array N e) (h0 : 0 < N) (hl : N ≤ q.length) : Val P (.sliceToArrayPointer t x) ty [(x, .d (.slice (q.map fun v => [g v])))] [] (.eptr ((q.take N).map g)) :=
  fun d pos aft gd n tm hp up hd hx hb => does_pure rfl hd fun β own a w hr => by
    have h := hr.ev hx.1
    generalize hv : a.eval x = v at h
    cases h with
    | d _ _ h =>
      generalize hys : q.map (fun v => [g v]) = ys at h
      have hyl : ys.length = q.length := by rw [← hys, List.length_map]
      cases h with
      | nil aa cap => simp at hyl; omega
      | slice _ b o cap kk c hc hown hlt hkk hcell hdd =>
        have hk1 : kk = 1 := by
          cases q with
          | nil => simp at hl; omega
          | cons v q => rw [List.map_cons] at hys; subst hys; have := hkk [g v] (by simp); simpa using this.symm
        subst hk1
        refine ⟨.pointer (some ⟨b, o, none⟩), ?_, .eptr _ b o (fun j => c j 0) hown hlt (fun j hj => ?_) (fun j y hy => ?_)⟩
        · simp only [execOp, hv]
          simp [Instr.arrayAt, run_underlying (ht.array hk), hyl, Nat.not_lt.2 hl]
        · have := hcell j (by simp at hj; omega) 0 (by omega)
          simpa using this
        · rw [List.getElem?_map, List.getElem?_take] at hy
          split at hy
          · cases hq : q[j]? with
            | none => rw [hq] at hy; simp at hy
            | some z =>
              rw [hq] at hy; simp at hy; subst hy
              exact hdd j [g z] (by rw [← hys]; simp [hq]) 0 (g z) rfl
          · simp at hy

/-! an own box of data that is written no more -/
def PV.bfz (m : Nm) (ds : List D) (p : PV) : PV := match p with
  | .ptr q off => if q == m then .eptr (ds.drop off) else .ptr q off
  | p => p
def bfzTm (m : Nm) (ds : List D) : List (Nat × PV) → List (Nat × PV)
  | [] => []
  | (t, p) :: r => (t, p.bfz m ds) :: bfzTm m ds r
theorem look_bfzTm {m : Nm} {ds : List D} : ∀ {tm : List (Nat × PV)} {t : Nat}, look (bfzTm m ds tm) t = (look tm t).map (PV.bfz m ds)
  | [], t => rfl
  | (k, p) :: r, t => by
    simp only [bfzTm, look]
    split
    · rfl
    · exact look_bfzTm
theorem PR.bfz {β : Nm → Value} {w : World} {own : Nat → Prop} {m : Nm} {ds : List D} {g : Nat} (hm : β m = .pointer (some ⟨g, 0, none⟩)) (hx : ∀ off, PR β w own (.eptr (ds.drop off)) (.pointer (some ⟨g, off, none⟩))) {p : PV} {v : Value} (h : PR β w own p v) : PR β w own (p.bfz m ds) v := by
  cases h with
  | ptr q off g' hb =>
    simp only [PV.bfz]
    split
    · rename_i e
      simp at e; subst e
      rw [hm] at hb; simp at hb; subst hb
      exact hx off
    · exact .ptr q off g' hb
  | any v => exact .any v
  | d x v h => exact .d x v h
  | ref q => exact .ref q
  | eptr cs g o c a b e f => exact .eptr cs g o c a b e f
  | rptr q k i off g len cap h => exact .rptr q k i off g len cap h
  | rsub q k lo len L cap a h hl hc => exact .rsub q k lo len L cap a h hl hc
  | al a b h v => exact .al a b h v
  | agg cs vs a b c => exact .agg cs vs a b c
  | tup cs vs a b => exact .tup cs vs a b
  | fn f a b c d e g h i => exact .fn f a b c d e g h i
  | yl m L h => exact .yl m L h
  | full xs a h => exact .full xs a h
theorem Rep.bfz {β : Nm → Value} {own : Nat → Prop} {a : Act} {w : World} {ms : Nat} {ds : List D} (hr : Rep ⟨n, tm, hp, up⟩ β own a w) (hb : look hp ms = some (.box (ds.map .d))) :
    ∃ own', Ext w own w own' ∧ Rep ⟨n, bfzTm (0, ms) ds tm, (ms, .gone) :: hp, up⟩ β own' a w := by
  have hlook : lookF (push hp up) (0, ms) = some (.box (ds.map .d)) := hb
  have hbr := hr.heap.blk _ _ hlook
  generalize hv : β (0, ms) = v at hbr
  cases hbr with
  | box g t _ cur ho hg hl h1 hd =>
  let own' : Nat → Prop := fun b => own b ∧ b ≠ g
  have hE : Ext w own w own' := ⟨rfl, rfl, rfl, Nat.le_refl _, fun _ _ _ => rfl, fun b _ h h' => h h'.1⟩
  have hx : ∀ off, PR β w own' (.eptr (ds.drop off)) (.pointer (some ⟨g, off, none⟩)) := fun off => by
    have hlc : ds.length = cur.length := by simpa using hl
    refine .eptr _ g off (fun j => cur.getD (off + j) undef) (fun h => h.2 rfl) (Array.getElem?_eq_some_iff.1 hg).1 (fun j hj => ?_) (fun j y hy => ?_)
    · have hj' : off + j < cur.length := by simp at hj; omega
      have e1 : cur.getD (off + j) undef = cur[off + j] := by simp [List.getD, List.getElem?_eq_getElem hj']
      rw [e1, cell_of_row w g _ cur.toArray t (0, 0) hg]
      exact ⟨by simp [List.getElem?_eq_getElem hj'], h1 _ (List.getElem_mem _)⟩
    · rw [List.getElem?_drop] at hy
      have hj' : off + j < cur.length := by have := (List.getElem?_eq_some_iff.1 hy).1; omega
      have e1 : cur.getD (off + j) undef = cur[off + j] := by simp [List.getD, List.getElem?_eq_getElem hj']
      rw [e1]
      have := hd (off + j) (.d y) cur[off + j] (by simp [hy]) (List.getElem?_eq_getElem hj')
      cases this with
      | d _ _ h => exact h.mono hE
  refine ⟨own', hE, hr.size, hr.defers, fun t p hp => ?_, ?_⟩
  · rw [look_bfzTm] at hp
    cases hq : look tm t with
    | none => rw [hq] at hp; simp at hp
    | some q => rw [hq] at hp; simp at hp; subst hp; exact PR.bfz hv hx ((hr.tm t q hq).mono hE)
  · have key : ∀ q b, lookF (push ((ms, .gone) :: hp) up) q = some b → b.live = true → q ≠ (0, ms) ∧ lookF (push hp up) q = some b := by
      intro q b hq hl
      rw [lookF_cons] at hq
      by_cases hqm : q = (0, ms)
      · rw [if_pos hqm] at hq; simp at hq; subst hq; cases hl
      · rw [if_neg hqm] at hq; exact ⟨hqm, hq⟩
    refine ⟨fun q b hq => ?_, fun q1 q2 b1 b2 h1 h2 l1 l2 hne => hr.heap.inj q1 q2 b1 b2 (key q1 b1 h1 l1).2 (key q2 b2 h2 l2).2 l1 l2 hne, fun g hg => hr.heap.lt g hg.1⟩
    cases hl : b.live with
    | false => cases b <;> first | (simp [Blk.live] at hl; done) | exact .gone _
    | true =>
      obtain ⟨hqm, hb'⟩ := key q b hq hl
      exact (hr.heap.blk q b hb').kept hE fun lb b' hb'' => ⟨rfl, (hr.heap.blk q b hb').block_lt lb hb'', fun e => hr.heap.inj q (0, ms) b _ hb' hlook lb rfl hqm b' hb'' (by rw [hv]; subst e; rfl)⟩
theorem r_bfz (ms : Nat) {ds : List D} (hb : look hp ms = some (.box (ds.map .d))) (h : Run P f R k ⟨n, bfzTm (0, ms) ds tm, (ms, .gone) :: hp, up⟩) : Run P f R k ⟨n, tm, hp, up⟩ :=
  Run.step (fun β own a w hr b cs => let ⟨own', hE, hr'⟩ := hr.bfz hb; ⟨β, own', a, w, hr', hE, rfl, .refl _ _⟩) h
theorem o_bfz (ms : Nat) {ds : List D} (hb : look hp ms = some (.box (ds.map .d))) (h : Ops P f R all l k ⟨n, bfzTm (0, ms) ds tm, (ms, .gone) :: hp, up⟩) : Ops P f R all l k ⟨n, tm, hp, up⟩ :=
  fun is his => r_bfz ms hb (h is his)
end Go.Ab
