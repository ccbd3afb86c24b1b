/- A part of the proof: Core29, Core30, Core33, Core35, Core36, Core37, Core25, Core43, Core44, Core45, Core46, Core47, Core48, Core50, Core51, Core52, Core53, Core54, Core55, Core61, Core62, Core63, Core64, Core65, Core66, Core67, Core68, Core69, Core70, Core71, Core72, Core73, Core74. -/
import Derived.Test.YtjmbjgecfpggdaaGreatDoorRb
import Derived.WalkSpells
import Derived.Lib.SliceRun
import Derived.Laws.BytesArg
import Derived.ProofKit
import Derived.Sort.Row
import Derived.Sort.Grow
import Derived.Laws.Pointers
import Derived.ArgAppend
import Derived.Below
import Derived.Shelf.GgSortFunc.InsertionK
import Derived.Lib.AppendStr
import Derived.Laws.Cover4
set_option linter.all false
set_option linter.unusedVariables false
set_option linter.unusedSimpArgs false
namespace Go.Ab
variable {P : Program} {f : FuncId} {R : z3s} {k : List Item} {all : Array Oper} {o : Oper} {l : List Oper}
variable {n : Nat} {tm : List (Nat × PV)} {hp : Hp} {up : Hf} {d : Nat} {ty : TypeId} {pos : String} {aft : Array Edge} {gd : Option (Nat × Bool)} {op : Op} {p : PV}
def PV.taker (m : Nm) (y : Nat) : PV → PV
 | .ref q => if q == m then .ref (0, y) else .ref q
 | p => p
def ze4 (m : Nm) (y : Nat) : List (Nat × PV) → List (Nat × PV)
 | [] => []
 | (t, p) :: r => (t, p.taker m y) :: ze4 m y r
theorem za4 {m : Nm} {y : Nat} : ∀ {tm : List (Nat × PV)} {t : Nat}, look (ze4 m y tm) t = (look tm t).map (PV.taker m y)
 | [], t => rfl
 | (k, p) :: r, t => by
  simp only [ze4, look]
  split
  · rfl
  · exact za4
theorem z4c (y md ms : Nat) {raw : Blk} (hb : up md ms = some raw) (hl : raw.live = true) (hfr : (z1r y hp && z1t y tm) = true)
  (h : Run P f R k ⟨n, (100000 + y, .al (0, y) (md + 1, ms)) :: ze4 (md + 1, ms) y tm, (y, raw.lift (md + 1)) :: hp, upd up (md, ms) .gone⟩) : Run P f R k ⟨n, tm, hp, up⟩ := by
 refine Run.step (fun β own a w hr b cs => ⟨z69 β y (β (md + 1, ms)), own, a, w, ?_, Ext.refl _ _, z3r _ _ _, .refl _ _⟩) h
 have hne : ((md + 1, ms) : Nm) ≠ (0, y) := by simp
 simp only [Bool.and_eq_true] at hfr
 have hlook : z1f (push hp up) (md + 1, ms) = some (raw.lift (md + 1)) := by simp [z1f, push, hb]
 have hl' : (raw.lift (md + 1)).live = true := by rw [Blk.lift_live]; exact hl
 have hr0 : HR (push hp (upd up (md, ms) .gone)) β own w := by rw [z5i]; exact hr.heap.drop (md + 1, ms)
 have key : ∀ m c, z1f (push hp (upd up (md, ms) .gone)) m = some c → c.live = true → m ≠ (md + 1, ms) ∧ z1f (push hp up) m = some c := by
  intro m c hm hc
  rw [z5i, z30] at hm
  by_cases e : m = (md + 1, ms)
  · rw [if_pos e] at hm; simp [atF, Blk.lift] at hm; subst hm; cases hc
  · rw [if_neg e] at hm; exact ⟨e, hm⟩
 refine ⟨hr.size, hr.defers, fun t p hp' => ?_, ?_⟩
 · simp only [look] at hp'
   split at hp'
   · simp at hp'; subst hp'
     exact .al _ _ (by rw [z2c, z2t _ _ _ _ hne]) _
   · rw [za4] at hp'
     cases hq : look tm t with
     | none => rw [hq] at hp'; cases hp'
     | some q =>
      rw [hq] at hp'; simp at hp'; subst hp'
      have h1 := hr.tm t q hq
      have h2 := h1.reβ (β' := z69 β y (β (md + 1, ms))) (0, y) (z2t β y _) (z6g hfr.2 hq)
      generalize a.tmps.getD t undef = v at h1 h2
      cases q with
      | ref q =>
       simp only [PV.taker]
       split
       · rename_i e; simp at e; subst e
         cases h1 with | ref _ => have := PR.ref (β := z69 β y (β (md + 1, ms))) (w := w) (own := own) (0, y); rw [z2c] at this; exact this
       · exact h2
      | _ => exact h2
 · have hbr := hr.heap.blk (md + 1, ms) _ hlook
   refine HR.install (d := y) hr0 hfr.1 (Ext.refl w own) hr.heap.lt (v := β (md + 1, ms)) (b := raw.lift (md + 1)) (fun m c hm hc hmy g hg => ?_) (hbr.reβ (0, y) (z2t β y _) (Blk.lift_says _ _ _))
   obtain ⟨h1, h2⟩ := key m c hm hc
   exact ⟨rfl, (hr.heap.blk m c h2).block_lt hc hg, fun _ => hr.heap.inj m (md + 1, ms) c _ h2 hlook hc hl' h1 g hg⟩
theorem z0v {H : Hf} {m : Nm} {b c : Blk} {d s : Nat} (h : H d s = some c) (hne : ¬ (d = m.1 ∧ s = m.2)) : upd H m b d s = some c := by
 simp only [upd]; rw [if_neg hne]; exact h
end Go.Ab
namespace Go.Ab
variable {P : Program} {ty tx ty' : TypeId} {x y z : Operand} {k k2 : IntKind} {a b : Int}
/-- a shift to the left by a number of bits -/
def zum (k : IntKind) (a b : Int) : Int := k.wrap (a * 2 ^ (min b.toNat k.bits))
def zrt (k : IntKind) (a b : Int) : Int := a.fdiv (2 ^ (min b.toNat k.bits))
def zqh (k : IntKind) (a b : Int) : Int := k.wrap ((BitVec.ofInt k.bits a &&& BitVec.ofInt k.bits b).toNat : Int)
def orV (k : IntKind) (a b : Int) : Int := k.wrap ((BitVec.ofInt k.bits a ||| BitVec.ofInt k.bits b).toNat : Int)
theorem zq6 (h0 : 0 ≤ b) : Val P (.binOp .shl tx x y ty') ty [(x, I k a), (y, I k2 b)] [] (I k (zum k a b)) := fun d pos aft gd n tm hp up hd hx _ =>
 z6k hx.1 hx.2.1 hd rfl fun w => by
  have h : ¬ b < 0 := by omega
  simp [eqGuard, binOp, Op.shift, h, zum]
theorem zfw (h0 : 0 ≤ b) : Val P (.binOp .shr tx x y ty') ty [(x, I k a), (y, I k2 b)] [] (I k (zrt k a b)) := fun d pos aft gd n tm hp up hd hx _ =>
 z6k hx.1 hx.2.1 hd rfl fun w => by
  have h : ¬ b < 0 := by omega
  simp [eqGuard, binOp, Op.shift, h, zrt]
theorem z8x : Val P (.binOp .and tx x y ty') ty [(x, I k a), (y, I k b)] [] (I k (zqh k a b)) := fun d pos aft gd n tm hp up hd hx _ =>
 z6k hx.1 hx.2.1 hd rfl fun w => by simp [eqGuard, binOp, Op.intBits, zqh]
theorem zcc : Val P (.binOp .or tx x y ty') ty [(x, I k a), (y, I k b)] [] (I k (orV k a b)) := fun d pos aft gd n tm hp up hd hx _ =>
 z6k hx.1 hx.2.1 hd rfl fun w => by simp [eqGuard, binOp, Op.intBits, orV]
theorem zrq (h0 : 0 ≤ a) (h1 : b.toNat ≤ k.bits) : zrt k a b = a / 2 ^ b.toNat := by
 rw [zrt, Nat.min_eq_left h1, Int.fdiv_eq_ediv_of_nonneg _ (Int.pow_nonneg (by omega))]
theorem zus {x : Int} (h1 : 0 ≤ x) (h2 : x < 18446744073709551616) : IntKind.u64.wrap x = x := by
 simp only [IntKind.wrap, IntKind.bits, IntKind.signed]
 simp
 omega
end Go.Ab
namespace Go.Ab
section
variable {ops : List Oper} {es : List Eff} {s : St} {P : Program} {f : FuncId} {R : z3s} {k : List Item}
theorem zi1 {L : List Nat} {m : Nat} (h : Lin ops L) (hm : ∀ i ∈ L, i < m) : Lin (ops.take m) L := by
 induction h with
 | nil => exact .nil
 | snoc L i o h hn ho hr ih =>
  exact .snoc L i o (ih fun j hj => hm j (by simp [hj])) hn (by rw [List.getElem?_take, if_pos (hm i (by simp))]; exact ho) hr
theorem zb4 {L : List Nat} (h : Lin ops L) : L.Nodup := by
 induction h with
 | nil => simp
 | snoc L i o h hn ho hr ih => rw [List.nodup_append]; exact ⟨ih, by simp, fun a ha b hb => by simp at hb; subst hb; exact fun e => hn (e ▸ ha)⟩
def zf7 (ms : List Nat) (m n : Nat) : Bool := (List.range n).all fun j => decide (j < m) || (List.range j).all fun i => (ms.getD j 0).testBit i
theorem zb2 {ms : List Nat} {m n : Nat} (h : zf7 ms m n = true) {j i : Nat} (hj : m ≤ j) (hn : j < n) (hi : i < j) : (ms.getD j 0).testBit i = true := by
 simp only [zf7, List.all_eq_true, List.mem_range, Bool.or_eq_true, decide_eq_true_eq] at h
 rcases h j hn with h | h
 · omega
 · exact h i hi
/-- the order of the last operations -/
theorem zr5 (hback : za1 ops 0 = true) {m : Nat} (htail : zf7 (zc9 [] ops) m ops.length = true) : ∀ (fuel tt : Nat) (listed : Array Bool) (L : List Nat) (m' : Nat), m ≤ m' → m' ≤ ops.length → (∀ i, listed.getD i false = true ↔ i ∈ L) → listed.size = ops.length → Lin ops L → (∀ i, i ∈ L ↔ i < m') → ops.length ≤ fuel + m' →
  (Region.linearise.go .any ops.toArray fuel tt listed []).map (fun i => ops.toArray[i]?) = (ops.drop m').map some := by
 intro fuel
 induction fuel with
 | zero =>
  intro tt listed L m' h1 h2 hlist hsz hL hm hle
  have : m' = ops.length := by omega
  subst this
  simp [Region.linearise.go]
 | succ fuel ih =>
  intro tt listed L m' h1 h2 hlist hsz hL hm hle
  simp only [Region.linearise.go]
  change (match (Region.ready .any ops.toArray listed)[tt % (Region.ready .any ops.toArray listed).length]? with
   | some i => Region.linearise.go .any ops.toArray fuel (tt / (Region.ready .any ops.toArray listed).length) (listed.setIfInBounds i true) [i]
   | none => [].reverse).map (fun i => ops.toArray[i]?) = _
  cases hi : (Region.ready .any ops.toArray listed)[tt % (Region.ready .any ops.toArray listed).length]? with
  | none =>
   have hnil : Region.ready .any ops.toArray listed = [] := by
    cases hr : Region.ready .any ops.toArray listed with
    | nil => rfl
    | cons x xs =>
     rw [hr] at hi
     have hlt : tt % (x :: xs).length < (x :: xs).length := Nat.mod_lt _ (by simp)
     simp at hi
     simp at hlt
     omega
   have hall := z6y hback hlist hsz hnil
   have : m' = ops.length := by
    apply Classical.byContradiction
    intro hne
    have := (hm m').1 (hall m' (by omega))
    omega
   subst this
   simp
  | some i =>
   have hmem : i ∈ Region.ready .any ops.toArray listed := List.mem_of_getElem? hi
   obtain ⟨hun, o, ho, hedges⟩ := mem_ready.1 hmem
   have ho' : ops[i]? = some o := by simpa using ho
   have hilt : i < ops.length := (List.getElem?_eq_some_iff.1 ho').1
   have hnL : i ∉ L := fun hx => by
    have h1 := (hlist i).2 hx
    rw [Array.getD_eq_getD_getElem?, Array.getElem?_eq_getElem (by omega)] at h1 hun
    simp at h1 hun
    rw [h1] at hun; cases hun
   have hL' : Lin ops (L ++ [i]) := .snoc L i o hL hnL ho' fun e he hb => (hlist _).1 (hedges e (by simpa using he) hb)
   have him : i = m' := by
    have h3 : ¬ i < m' := fun h => hnL ((hm i).2 h)
    apply Classical.byContradiction
    intro hne
    have hbit := zb2 htail (j := i) (i := m') (by omega) hilt (by omega)
    have := z6j ops ops [] [] rfl rfl (by simp) i m' hbit L hL'
    have := (hm m').1 this
    omega
   subst him
   simp only []
   rw [linearise_go_acc, List.reverse_singleton, List.singleton_append, List.map_cons]
   have hd : ops.drop i = o :: ops.drop (i + 1) := by
    rw [List.getElem?_eq_some_iff] at ho'
    rw [List.drop_eq_getElem_cons hilt, ho'.2]
   rw [hd, List.map_cons, ho]
   congr 1
   refine ih _ _ (L ++ [i]) (i + 1) (by omega) (by omega) (fun j => ?_) (by simpa using hsz) hL' (fun j => ?_) (by omega)
   · by_cases hji : j = i
     · subst hji; simp [hsz, hilt]
     · rw [getD_set_ne false (Ne.symm hji), hlist]; simp [hji]
   · rw [List.mem_append, hm]; simp; omega
theorem zn4 {m : Nat} (hes : es.length = m) (hmo : m ≤ ops.length) (hchk : z68 (ops.take m) s es = true) (hback : za1 ops 0 = true) (htail : zf7 (zc9 [] ops) m ops.length = true) {t : St} (htext : Text s es t)
  (hloc : ∀ i e, es[i]? = some e → Loc P f R ops.toArray k s.n i e) (h : Ops P f R ops.toArray (ops.drop m) k t) :
  ∀ (fuel tt : Nat) (listed : Array Bool) (L : List Nat), (∀ i, listed.getD i false = true ↔ i ∈ L) → listed.size = ops.length → Lin ops L → (∀ i ∈ L, i < m) → ops.length ≤ fuel + L.length →
   Run P f R (.inRegion ops.toArray (Region.linearise.go .any ops.toArray fuel tt listed []) :: k) (after es s L) := by
 -- all of the first part done
 have done : ∀ (fuel tt : Nat) (listed : Array Bool) (L : List Nat), (∀ i, listed.getD i false = true ↔ i ∈ L) → listed.size = ops.length → Lin ops L → (∀ i, i ∈ L ↔ i < m) → ops.length ≤ fuel + m →
   Run P f R (.inRegion ops.toArray (Region.linearise.go .any ops.toArray fuel tt listed []) :: k) (after es s L) := by
  intro fuel tt listed L hlist hsz hL hall hle
  have hg := zr5 hback htail fuel tt listed L m (Nat.le_refl _) hmo hlist hsz hL hall hle
  have hr := h _ hg
  obtain ⟨h1, h2⟩ := zh6 hchk (zi1 hL fun i hi => (hall i).1 hi) (fun i hi => (hall i).2 (by omega))
  rw [← htext.state.1] at h1 h2
  refine Run.same_view (s := t) ?_ h1 h2 ?_ hr
  · rw [htext.state.1, z9r, z9r]
  · rw [zui, zui t]; funext d x; exact h2 _
 intro fuel
 induction fuel with
 | zero =>
  intro tt listed L hlist hsz hL hlm hle
  have hlen := nodup_lt_length m L (zb4 hL) hlm
  refine done 0 tt listed L hlist hsz hL (fun i => ⟨hlm i, fun hi => ?_⟩) (by omega)
  apply Classical.byContradiction
  intro hn
  have := nodup_lt_length m (i :: L) (List.nodup_cons.2 ⟨hn, zb4 hL⟩) (fun x hx => by
   simp at hx
   rcases hx with rfl | hx
   · exact hi
   · exact hlm x hx)
  simp at this
  omega
 | succ fuel ih =>
  intro tt listed L hlist hsz hL hlm hle
  by_cases hfull : ∀ i, i < m → i ∈ L
  · have hlen : m ≤ L.length := by
     have := nodup_lt_length m (List.range m) List.nodup_range (by simp)
     have h2 : ∀ (A B : List Nat), A.Nodup → (∀ x ∈ A, x ∈ B) → A.length ≤ B.length := by
      intro A
      induction A with
      | nil => intro B _ _; simp
      | cons a A ihA =>
       intro B hnd hsub
       obtain ⟨ha, hnd'⟩ := List.nodup_cons.1 hnd
       have haB := hsub a (by simp)
       have := ihA (B.erase a) hnd' fun x hx => by
        have : x ≠ a := fun e => ha (e ▸ hx)
        exact (List.mem_erase_of_ne this).2 (hsub x (by simp [hx]))
       rw [List.length_erase_of_mem haB] at this
       have hpos : 0 < B.length := List.length_pos_of_mem haB
       simp; omega
     have := h2 (List.range m) L List.nodup_range fun x hx => hfull x (by simpa using hx)
     simpa using this
    have hlen2 := nodup_lt_length m L (zb4 hL) hlm
    exact done (fuel + 1) tt listed L hlist hsz hL (fun i => ⟨hlm i, hfull i⟩) (by omega)
  · simp only [Region.linearise.go]
    change Run P f R (.inRegion ops.toArray (match (Region.ready .any ops.toArray listed)[tt % (Region.ready .any ops.toArray listed).length]? with
     | some i => Region.linearise.go .any ops.toArray fuel (tt / (Region.ready .any ops.toArray listed).length) (listed.setIfInBounds i true) [i]
     | none => [].reverse) :: k) (after es s L)
    cases hi : (Region.ready .any ops.toArray listed)[tt % (Region.ready .any ops.toArray listed).length]? with
    | none =>
     exfalso
     have hnil : Region.ready .any ops.toArray listed = [] := by
      cases hr : Region.ready .any ops.toArray listed with
      | nil => rfl
      | cons x xs =>
       rw [hr] at hi
       have hlt : tt % (x :: xs).length < (x :: xs).length := Nat.mod_lt _ (by simp)
       simp at hi
       simp at hlt
       omega
     exact hfull fun i hi => z6y hback hlist hsz hnil i (by omega)
    | some i =>
     have hmem : i ∈ Region.ready .any ops.toArray listed := List.mem_of_getElem? hi
     obtain ⟨hun, o, ho, hedges⟩ := mem_ready.1 hmem
     have ho' : ops[i]? = some o := by simpa using ho
     have hilt : i < ops.length := (List.getElem?_eq_some_iff.1 ho').1
     have hnL : i ∉ L := fun hx => by
      have h1 := (hlist i).2 hx
      rw [Array.getD_eq_getD_getElem?, Array.getElem?_eq_getElem (by omega)] at h1 hun
      simp at h1 hun
      rw [h1] at hun; cases hun
     have hL' : Lin ops (L ++ [i]) := .snoc L i o hL hnL ho' fun e he hb => (hlist _).1 (hedges e (by simpa using he) hb)
     have him : i < m := by
      apply Classical.byContradiction
      intro hge
      refine hfull fun j hj => ?_
      have hbit := zb2 htail (j := i) (i := j) (by omega) hilt (by omega)
      exact z6j ops ops [] [] rfl rfl (by simp) i j hbit L hL'
     have hLm' : ∀ j ∈ L ++ [i], j < m := fun j hj => by
      simp at hj
      rcases hj with hj | rfl
      · exact hlm j hj
      · exact him
     simp only []
     rw [linearise_go_acc, List.reverse_singleton, List.singleton_append]
     have hag := zcy hchk htext (zi1 hL' hLm')
     refine hloc i _ (getD_eq (by omega)) (after es s L) (z9r es L s) hag _ ?_
     rw [← z3k]
     refine ih _ _ (L ++ [i]) (fun j => ?_) (by simpa using hsz) hL' hLm' (by simp; omega)
     by_cases hji : j = i
     · subst hji; simp [hsz, hilt]
     · rw [getD_set_ne false (Ne.symm hji), hlist]; simp [hji]
/-- what is asked of the trace and of the order -/
def zk0 (ops : List Oper) (s : St) (es : List Eff) : Bool := decide (es.length ≤ ops.length) && z68 (ops.take es.length) s es && za1 ops 0 && zf7 (zc9 [] ops) es.length ops.length
theorem zrp {id : Nat} (hmix : P.follows .mixedOrders = true) (hchk : zk0 ops s es = true) {t : St} (htext : Text s es t) (hloc : ∀ i e, es[i]? = some e → Loc P f R ops.toArray k s.n i e) (h : Ops P f R ops.toArray (ops.drop es.length) k t) :
  Run P f R (.code (.region id ops.toArray true) :: k) s := by
 simp only [zk0, Bool.and_eq_true, decide_eq_true_eq] at hchk
 obtain ⟨⟨⟨h1, h2⟩, h3⟩, h4⟩ := hchk
 intro β own a w hrep b hb hk hn cs
 have hlen : (Array.replicate ops.toArray.size false).size = ops.length := by simp
 have key := zn4 rfl h1 h2 h3 h4 htext hloc h ops.toArray.size (w.tape w.drawn (.order b.fn id)) (Array.replicate ops.toArray.size false) [] (fun i => by simp [Array.getElem?_replicate]; split <;> simp) hlen .nil (by simp) (by simp)
 have hw : RowKit.Below w.heap.size w { w with drawn := w.drawn + 1 } := ⟨rfl, rfl, rfl, Nat.le_refl _, fun _ _ => rfl⟩
 have hdone := key β own a { w with drawn := w.drawn + 1 } (hrep.below hw) b hb hk hn cs
 refine (hdone.ext (Below.ext hw own)).of_steps (.one ?_)
 have := stepR_region_draw (P := P) (b := b) (a := { a with defers := b.defers }) (k := k) (cs := cs) (w := w) (ops := ops.toArray) (id := id)
 refine this.trans ?_
 simp only [Region.schedule, hmix, Bool.true_or, if_true]
 rfl
variable {id : Nat} {s0 : St} {done : List Eff} {l : List Oper}
/-- the last operations of a region that draws, in the text's order -/
theorem zh4 (hmix : P.follows .mixedOrders = true) (hchk : zk0 ops s0 done = true) (h : Ops P f R ops.toArray l k s) : Tr P f R id ops k s0 done s l :=
 fun ⟨pre, hops, hlen⟩ hloc htext _ => zrp hmix hchk htext hloc (by rw [hops, ← hlen, List.drop_left, ← hops]; exact h)
end
end Go.Ab
namespace Go.Ab
variable {P : Program} {f : FuncId} {R : z3s} {k : List Item} {all : Array Oper} {o : Oper} {l : List Oper}
variable {n : Nat} {tm : List (Nat × PV)} {hp : Hp} {up : Hf} {d : Nat} {ty : TypeId} {pos : String} {aft : Array Edge} {gd : Option (Nat × Bool)} {op : Op} {p : PV}
variable {k' : List Item} {s s' : St}
theorem Run.stepV (h : ∀ β own a w, Rep s β own a w → ∀ (b : Frame) cs, ∃ β' own' a' w', Rep s' β' own' a' w' ∧ Ext w own w' own' ∧ (∀ n, ¬ R.vol n → z5s β' n = z5s β n) ∧
   Steps P (lone (am b a k) cs w) (lone (am b a' k') cs w')) (hr : Run P f R k' s') : Run P f R k s := by
 intro β own a w hrep b hb hk hn cs
 obtain ⟨β', own', a', w', hrep', hext, ho, hst⟩ := h β own a w hrep b cs
 refine (((hr β' own' a' w' hrep' b hb hk ?_ cs).same ho).ext hext).of_steps hst
 unfold z8y at hn ⊢
 cases hm : R.rnd with
 | none => rw [hm] at hn; exact hn
 | some m =>
  rw [hm] at hn
  obtain ⟨hv, L, h1, h2⟩ := hn
  exact ⟨hv, L, h1, (ho m hv).trans h2⟩
/-! one name for another in boxes and slots -/
def PV.alias (a b : Nm) : PV → PV
 | .ref q => if q == b then .ref a else .ref q
 | p => p
def za2 (a b : Nm) : List PV → List PV
 | [] => []
 | p :: r => p.alias a b :: za2 a b r
def Blk.alias (a b : Nm) : Blk → Blk
 | .box cs => .box (za2 a b cs)
 | q => q
def z3d (a b : Nm) : Hp → Hp
 | [] => []
 | (t, q) :: r => (t, q.alias a b) :: z3d a b r
theorem zcs (a b : Nm) : ∀ (cs : List PV) (j : Nat), (za2 a b cs)[j]? = (cs[j]?).map (PV.alias a b)
 | [], j => by simp [za2]
 | p :: r, 0 => by simp [za2]
 | p :: r, j + 1 => by simp [za2, zcs a b r j]
theorem zct (a b : Nm) : ∀ cs : List PV, (za2 a b cs).length = cs.length
 | [] => rfl
 | p :: r => by simp [za2, zct a b r]
theorem z62 {a b : Nm} : ∀ {hp : Hp} {t : Nat}, look (z3d a b hp) t = (look hp t).map (Blk.alias a b)
 | [], t => rfl
 | (k, p) :: r, t => by
  simp only [z3d, look]
  split
  · rfl
  · exact z62
theorem PR.alias {β : Nm → Value} {w : World} {own : Nat → Prop} {a b : Nm} (hab : β a = β b) {p : PV} {v : Value} (h : PR β w own p v) : PR β w own (p.alias a b) v := by
 cases h with
 | ref q =>
  simp only [PV.alias]
  split
  · rename_i e; simp at e; subst e; rw [← hab]; exact .ref _
  · exact .ref _
 | any => exact .any _
 | d _ _ h => exact .d _ _ h
 | ptr m off g h => exact .ptr m off g h
 | eptr cs g o c h1 h2 h3 h4 => exact .eptr cs g o c h1 h2 h3 h4
 | rptr m k i off g len cap h => exact .rptr m k i off g len cap h
 | rsub m k lo len L cap a h h1 h2 => exact .rsub m k lo len L cap a h h1 h2
 | al m m' h v => exact .al m m' h v
 | agg cs vs h1 h2 h3 => exact .agg cs vs h1 h2 h3
 | tup cs vs h1 h2 => exact .tup cs vs h1 h2
 | fn f a b c d e g h i => exact .fn f a b c d e g h i
 | yl m L h => exact .yl m L h
 | full xs a h => exact .full xs a h
theorem BR.alias {β : Nm → Value} {w : World} {own : Nat → Prop} {a b : Nm} (hab : β a = β b) {v : Value} {q : Blk} (h : BR β w own v q) : BR β w own v (q.alias a b) := by
 cases h with
 | box g t cs cur ho hg hl h1 hd =>
  refine .box g t _ cur ho hg (by rw [zct]; exact hl) h1 fun j x u hx hu => ?_
  rw [zcs] at hx
  cases hc : cs[j]? with
  | none => rw [hc] at hx; cases hx
  | some y => rw [hc] at hx; simp at hx; subst hx; exact (hd j y u hc hu).alias hab
 | row v e k xs vs ho hk hr hd => exact .row v e k xs vs ho hk hr hd
 | siter g s pos ho hg => exact .siter g s pos ho hg
 | glob g o ho hg hd => exact .glob g o ho hg hd
 | mp g clock es cur ho hg hl hd hb hc => exact .mp g clock es cur ho hg hl hd hb hc
 | lp g n' f ps asg body st state pending tmps df ho hg hl hd => exact .lp g n' f ps asg body st state pending tmps df ho hg hl hd
 | gone v => exact .gone v
theorem Blk.alias_live (a b : Nm) (q : Blk) : (q.alias a b).live = q.live := by cases q <;> rfl
/-- the own boxes, in which another name stands for the same row -/
theorem HR.alias {β : Nm → Value} {own : Nat → Prop} {w : World} {a b : Nm} (hab : β a = β b) (h : HR (push hp up) β own w) : HR (push (z3d a b hp) up) β own w := by
 have key : ∀ m c, z1f (push (z3d a b hp) up) m = some c → (m.1 = 0 ∧ ∃ q, z1f (push hp up) m = some q ∧ c = q.alias a b) ∨ z1f (push hp up) m = some c := by
  rintro ⟨e, t⟩ c hc
  cases e with
  | zero =>
   left
   have hc' : look (z3d a b hp) t = some c := hc
   rw [z62] at hc'
   cases hq : look hp t with
   | none => rw [hq] at hc'; cases hc'
   | some q => rw [hq] at hc'; simp at hc'; exact ⟨rfl, q, hq, hc'.symm⟩
  | succ e => right; exact hc
 refine ⟨fun m c hc => ?_, fun m1 m2 c1 c2 h1 h2 l1 l2 hne => ?_, h.lt⟩
 · rcases key m c hc with ⟨_, q, hq, rfl⟩ | hq
   · exact (h.blk m q hq).alias hab
   · exact h.blk m c hq
 · have g : ∀ m c, z1f (push (z3d a b hp) up) m = some c → c.live = true → ∃ q, z1f (push hp up) m = some q ∧ q.live = true := by
    intro m c hc hl
    rcases key m c hc with ⟨_, q, hq, rfl⟩ | hq
    · exact ⟨q, hq, by rwa [Blk.alias_live] at hl⟩
    · exact ⟨c, hq, hl⟩
   obtain ⟨q1, e1, f1⟩ := g m1 c1 h1 l1
   obtain ⟨q2, e2, f2⟩ := g m2 c2 h2 l2
   exact h.inj m1 m2 q1 q2 e1 e2 f1 f2 hne
theorem z4i (t : Nat) {a b : Nm} (hal : look tm t = some (.al a b)) (h : Run P f R k ⟨n, tm, z3d a b hp, up⟩) : Run P f R k ⟨n, tm, hp, up⟩ := by
 refine Run.le (s := ⟨n, tm, z3d a b hp, up⟩) (fun β own ac w hr => ⟨β, rfl, hr.size, hr.defers, hr.tm, ?_⟩) h
 have hab : β a = β b := by
  have := hr.tm _ _ hal
  generalize ac.tmps.getD t undef = v at this
  cases this with | al _ _ h _ => exact h
 exact hr.heap.alias hab
/-! what speaks of a name is forgotten -/
def z6c (m : Nm) : List (Nat × PV) → List (Nat × PV)
 | [] => []
 | (t, p) :: r => (t, if p.says m then .any else p) :: z6c m r
theorem z5l {m : Nm} : ∀ {tm : List (Nat × PV)} {t : Nat}, look (z6c m tm) t = (look tm t).map fun p => if p.says m then .any else p
 | [], t => rfl
 | (k, p) :: r, t => by
  simp only [z6c, look]
  split
  · rfl
  · exact z5l
theorem PR.drop {β β' : Nm → Value} {w : World} {own : Nat → Prop} {m : Nm} (hb : ∀ q, q ≠ m → β' q = β q) {p : PV} {v : Value} (h : PR β w own p v) : PR β' w own (if p.says m then .any else p) v := by
 split
 · exact .any _
 · rename_i hs
   exact h.reβ m hb (by simpa using hs)
/-- no block of a list speaks of a name -/
def z3j (m : Nm) : Hp → Bool
 | [] => true
 | (_, b) :: r => !b.says m && z3j m r
theorem z4j {m : Nm} : ∀ {hp : Hp} {t : Nat} {b : Blk}, z3j m hp = true → look hp t = some b → b.says m = false
 | [], t, b, _, h => by simp [look] at h
 | (k, c) :: r, t, b, hf, h => by
  simp only [z3j, Bool.and_eq_true, Bool.not_eq_true'] at hf
  simp only [look] at h
  split at h
  · simp at h; subst h; exact hf.1
  · exact z4j hf.2 h
/-- callers' blocks that do not speak of their row ms -/
def Quiet (H : Hf) (ms : Nat) : Prop := ∀ s b, H 0 s = some b → b.says (0, ms) = false
theorem z9i (m : Nm) (d s : Nat) : ((m.1 + 1, m.2) == ((d + 1, s) : Nm)) = (m == (d, s)) := by
 obtain ⟨a, b⟩ := m
 rw [Bool.eq_iff_iff]
 simp
mutual
theorem PV.lift_says1 (d s : Nat) : ∀ p : PV, (p.lift 1).says (d + 1, s) = p.says (d, s)
 | .ptr m off => by simp only [PV.lift, PV.says, z9i]
 | .ref m => by simp only [PV.lift, PV.says, z9i]
 | .rptr m _ _ _ => by simp only [PV.lift, PV.says, z9i]
 | .rsub m _ _ _ => by simp only [PV.lift, PV.says, z9i]
 | .al a b => by simp only [PV.lift, PV.says, z9i]
 | .agg cs => by simp only [PV.lift, PV.says]; exact PV.liftL_says1 d s cs
 | .tup vs => by simp only [PV.lift, PV.says]; exact PV.liftL_says1 d s vs
 | .fn f a b => by simp only [PV.lift, PV.says]; rw [PV.liftL_says1 d s a, PV.liftL_says1 d s b]
 | .yl m => by simp only [PV.lift, PV.says, z9i]
 | .full _ => rfl
 | .any => rfl
 | .d _ => rfl
 | .eptr _ => rfl
theorem PV.liftL_says1 (d s : Nat) : ∀ ps : List PV, PV.saysL (d + 1, s) (PV.liftL 1 ps) = PV.saysL (d, s) ps
 | [] => rfl
 | p :: ps => by simp only [PV.liftL, PV.saysL]; rw [PV.lift_says1 d s p, PV.liftL_says1 d s ps]
end
theorem za0 (d s : Nat) : ∀ st : List (Nat × PV), z4x (d + 1, s) (z2x 1 st) = z4x (d, s) st
 | [] => rfl
 | (t, p) :: r => by simp only [z2x, z4x]; rw [PV.lift_says1 d s p, za0 d s r]
theorem Blk.lift_says1 (d s : Nat) (b : Blk) : (b.lift 1).says (d + 1, s) = b.says (d, s) := by
 cases b with
 | box cs => exact PV.liftL_says1 d s cs
 | lp _ _ _ _ _ st _ _ => exact za0 d s st
 | _ => rfl
theorem Blk.lift_comp (d : Nat) (b : Blk) : b.lift (d + 1) = (b.lift d).lift 1 := (Blk.lift_lift d b).symm
theorem Blk.lift_says0 (d t s : Nat) (b : Blk) : (b.lift (d + t + 1)).says (t, s) = false := by
 induction t generalizing d with
 | zero => exact Blk.lift_says s d b
 | succ t ih => rw [show d + (t + 1) + 1 = (d + t + 1) + 1 by omega, Blk.lift_comp, Blk.lift_says1]; exact ih d
/-- a row of one's own handed to the caller under the caller's name for it, which is bound anew -/
theorem z38 (y ms : Nat) {e kk : Nat} {xs : List (List D)} (hb : look hp y = some (.row e kk xs)) (hg : up 0 ms = some .gone) (hvol : R.vol (0, ms)) (hq : z3j (1, ms) hp = true) (hup : Quiet up ms)
  (h : Run P f R k ⟨n, z6c (1, ms) tm, (y, .gone) :: z3d (1, ms) (0, y) hp, upd up (0, ms) (.row e kk xs)⟩) : Run P f R k ⟨n, tm, hp, up⟩ := by
 refine Run.stepV (s := ⟨n, tm, hp, up⟩) (s' := ⟨n, z6c (1, ms) tm, (y, .gone) :: z3d (1, ms) (0, y) hp, upd up (0, ms) (.row e kk xs)⟩) (fun β own a w hr b' fs => ?_) h
 let β' : Nm → Value := fun m => if m = (1, ms) then β (0, y) else β m
 have hne : ∀ m, m ≠ (1, ms) → β' m = β m := fun m hm => by simp [β', hm]
 have hsame : β' (1, ms) = β' (0, y) := by simp [β']
 have hy : β' (0, y) = β (0, y) := hne _ (by simp)
 -- the blocks as before, said by β'
 have hold : ∀ m c, z1f (push hp up) m = some c → c.says (1, ms) = false := by
  rintro ⟨dd, t⟩ c hc
  match dd, hc with
  | 0, hc => exact z4j hq hc
  | 1, hc =>
   simp only [z1f, push] at hc
   cases hu : up 0 t with
   | none => rw [hu] at hc; cases hc
   | some q => rw [hu] at hc; simp at hc; subst hc; rw [Blk.lift_says1]; exact hup t q hu
  | dd + 2, hc =>
   simp only [z1f, push] at hc
   cases hu : up (dd + 1) t with
   | none => rw [hu] at hc; cases hc
   | some q => rw [hu] at hc; simp at hc; subst hc; exact Blk.lift_says0 dd 1 ms q
 have h1 : HR (push hp up) β' own w := by
  refine ⟨fun m c hc => ?_, fun m1 m2 c1 c2 e1 e2 l1 l2 hn => ?_, hr.heap.lt⟩
  · by_cases hm : m = (1, ms)
    · subst hm
      have hc2 : z1f (push hp up) (1, ms) = some .gone := by simp [z1f, push, hg, Blk.lift]
      rw [hc2] at hc; simp at hc; subst hc; exact .gone _
    · rw [hne m hm]; exact (hr.heap.blk m c hc).reβ (1, ms) hne (hold m c hc)
  · have hg1 : ∀ m c, z1f (push hp up) m = some c → c.live = true → m ≠ (1, ms) := by
     rintro m c hc hl rfl
     have hc2 : z1f (push hp up) (1, ms) = some .gone := by simp [z1f, push, hg, Blk.lift]
     rw [hc2] at hc; simp at hc; subst hc; cases hl
    rw [hne m1 (hg1 m1 c1 e1 l1), hne m2 (hg1 m2 c2 e2 l2)]
    exact hr.heap.inj m1 m2 c1 c2 e1 e2 l1 l2 hn
 have h2 := h1.alias (hp := hp) hsame
 refine ⟨β', own, a, w, ⟨hr.size, hr.defers, fun t p hp' => ?_, ?_⟩, Ext.refl _ _, fun m hm => ?_, .refl _ _⟩
 · simp only at hp'
   rw [z5l] at hp'
   cases hq' : look tm t with
   | none => rw [hq'] at hp'; cases hp'
   | some q => rw [hq'] at hp'; simp at hp'; subst hp'; exact (hr.tm t q hq').drop hne
 · -- the row moves from the own name to the caller's
   have hrow : z1f (push (z3d (1, ms) (0, y) hp) up) (0, y) = some (.row e kk xs) := by
    show look (z3d (1, ms) (0, y) hp) y = _
    rw [z62, hb]; rfl
   have key : ∀ m c, z1f (push ((y, .gone) :: z3d (1, ms) (0, y) hp) (upd up (0, ms) (.row e kk xs))) m = some c → c.live = true → (m = (1, ms) ∧ c = .row e kk xs) ∨ (m ≠ (1, ms) ∧ m ≠ (0, y) ∧ z1f (push (z3d (1, ms) (0, y) hp) up) m = some c) := by
    intro m c hm hc
    rw [z2f] at hm
    by_cases e1 : m = (0, y)
    · rw [if_pos e1] at hm; simp at hm; subst hm; cases hc
    · rw [if_neg e1, z5i, z30] at hm
      by_cases e2 : m = (1, ms)
      · rw [if_pos e2] at hm; simp [atF, Blk.lift] at hm; exact .inl ⟨e2, hm.symm⟩
      · rw [if_neg e2] at hm; exact .inr ⟨e2, e1, hm⟩
   refine ⟨fun m c hm => ?_, fun m1 m2 c1 c2 e1 e2 l1 l2 hn g hg' => ?_, h2.lt⟩
   · cases hc : c.live with
     | false => cases c <;> first | (simp [Blk.live] at hc; done) | exact .gone _
     | true =>
      rcases key m c hm hc with ⟨rfl, rfl⟩ | ⟨_, _, h3⟩
      · rw [hsame]; exact h2.blk _ _ hrow
      · exact h2.blk m c h3
   · rcases key m1 c1 e1 l1 with ⟨rfl, rfl⟩ | ⟨n1, n1', h3⟩
     · rcases key m2 c2 e2 l2 with ⟨rfl, rfl⟩ | ⟨n2, n2', h4⟩
       · exact absurd rfl hn
       · rw [hsame] at hg'
         exact h2.inj (0, y) m2 _ c2 hrow h4 l1 l2 (Ne.symm n2') g hg'
     · rcases key m2 c2 e2 l2 with ⟨rfl, rfl⟩ | ⟨n2, n2', h4⟩
       · rw [hsame]
         exact h2.inj m1 (0, y) c1 _ h3 hrow l1 l2 n1' g hg'
       · exact h2.inj m1 m2 c1 c2 h3 h4 l1 l2 hn g hg'
 · refine hne _ fun e => hm ?_
   simp only [Prod.mk.injEq] at e
   have : m = (0, ms) := Prod.ext (by omega) e.2
   subst this
   exact hvol
/-! contracts of functions that bind the name (0, ms) of a row anew -/
/-- no block but those of bs speaks of the row -/
def znk (H : Hf) (bs : List (Nm × Blk)) (ms : Nat) : Prop := ∀ s b, (∀ q ∈ bs, q.1 ≠ (0, s)) → H 0 s = some b → b.says (0, ms) = false
def z5q (P : Program) (g : FuncId) (args : List PV) (bs hs : List (Nm × Blk)) (p : PV) (ms : Nat) : Prop :=
 ∀ H : Hf, (∀ q ∈ bs, H q.1.1 q.1.2 = some q.2) → znk H bs ms → z99 P g args H ⟨fun r H' => r = .v p ∧ H' = zf4 H hs, fun n => n = (0, ms), none⟩
end Go.Ab
namespace Go.Ab
end Go.Ab
namespace Go.Ab
variable {P : Program} {f : FuncId} {R : z3s} {k : List Item} {all : Array Oper} {l : List Oper}
variable {n : Nat} {tm : List (Nat × PV)} {hp : Hp} {up : Hf} {d : Nat} {ty : TypeId} {pos : String} {aft : Array Edge} {gd : Option (Nat × Bool)} {p : PV}
end Go.Ab
namespace Go.Ab
variable {P : Program} {f : FuncId} {R : z3s} {k : List Item} {all : Array Oper} {l : List Oper}
variable {n : Nat} {tm : List (Nat × PV)} {hp : Hp} {up : Hf}
theorem zpl (a b : Nat) {q : Blk} (hb : look hp a = some q) (hab : (!(a == b) && !q.says (0, b)) = true) (h : Ops P f R all l k ⟨n, zae a b tm, (b, q) :: (a, .gone) :: zcf a b hp, up⟩) : Ops P f R all l k ⟨n, tm, hp, up⟩ :=
 fun is his => z73 a b hb hab (h is his)
theorem zcn (ms j x e kk : Nat) {cs : List PV} (hb : look hp ms = some (.box cs)) (hj : cs[j]? = some (.d (.lit z57))) (hk : (decide (0 < kk) && !(ms == x)) = true) (hfr : (z1r x hp && z1t x tm) = true)
  (h : Ops P f R all l k ⟨n, tm, (ms, .box (cs.set j (.ref (0, x)))) :: (x, .row e kk []) :: hp, up⟩) : Ops P f R all l k ⟨n, tm, hp, up⟩ :=
 fun is his => zit ms j x e kk hb hj hk hfr (h is his)
end Go.Ab
namespace Go.Ab
variable {P : Program} {ty : TypeId} {x : Operand}
theorem zr4 {src dst e : TypeId} {ts td te : TI} {l : List Int} [hs : z1d P src ts] [hd' : z1d P dst td] [he : z1d P e te] (hks : ts.kind = .slice e) (hkd : td.kind = .str) (hke : te.kind = .int .u8) :
  Val P (.convert src dst x) ty [(x, .d (.slice (l.map fun n => [.lit (.int .u8 n)])))] [] (S (strOfNums l)) := fun d pos aft gd n tm hp up hd hx _ =>
 z1m rfl hd fun β own ac w hrp => by
  have h1 := hrp.ev hx.1
  generalize hv : ac.eval x = v at h1
  refine ⟨.string (strOfNums l), ?_, PR.S _⟩
  cases h1 with
  | d _ _ h1 =>
   have key : (convert src dst v).run P w = .ok (.string (strOfNums l)) w := by
    generalize hxs : (l.map fun n => [D.lit (Value.int .u8 n)]) = xs at h1
    cases h1 with
    | nil a cap =>
     have : l = [] := List.map_eq_nil_iff.1 hxs
     subst this
     cases a with
     | none => exact run_convert_bytes_nil w src e (hs.slice hks) (he.int hke) 0 cap dst (hd'.str hkd)
     | some a =>
      rw [run_convert_bytes_string w src dst e _ 0 cap (hs.slice hks) (he.int hke) (hd'.str hkd), run_bytesToString w a 0 cap [] (by
       have := run_loadCells_list (P := P) w a [] (fun j v hj => by simp at hj)
       simpa using this)]
      rfl
    | slice _ g o cap k c hc hown hlt hk hcell hdd =>
     subst hxs
     rw [List.length_map]
     refine run_convert_bytes_arg w src e (hs.slice hks) (he.int hke) g o l.length cap l rfl (fun i hi => ?_) dst (hd'.str hkd)
     have hl1 : (l.map fun n => [D.lit (Value.int .u8 n)])[i]? = some [D.lit (.int .u8 (l.getD i 0))] := by
      rw [List.getElem?_map, List.getElem?_eq_getElem hi, List.getD, List.getElem?_eq_getElem hi]; rfl
     have hk1 : k = 1 := by
      have := hk _ (List.mem_of_getElem? hl1); simpa using this.symm
     subst hk1
     have h2 := hcell i (by simpa using hi) 0 (by omega)
     have h3 := hdd i _ hl1 0 _ (by simp; rfl)
     have h4 : c i 0 = .int .u8 (l.getD i 0) := by
      generalize c i 0 = u at h3
      cases h3 with
      | lit _ h => rfl
     rw [← h4]; simpa using h2.1
   simp only [execOp, hv]
   rw [Sem.run_bind, key]; rfl
end Go.Ab
namespace Go.Ab
open Go.ChangeShapes Go.WideShapes Go.ChangeAt Go.RowKit
theorem Ext.toBelow {w w' : World} {own' : Nat → Prop} (h : Ext w (fun _ => False) w' own') : Below w.heap.size w w' :=
 ⟨h.os, h.tape, h.output, h.size, fun k hk => h.block k hk (fun f => f)⟩
theorem Below.kept {w w' : World} (h : Below w.heap.size w w') (may : MemPlace → Prop) : w.keptBut w' may := by
 refine ⟨h.os, h.output, fun i hi => ?_⟩
 rw [h.block i hi]
 cases hb : w.heap[i]? with
 | none => rfl
 | some o => cases o <;> simp
section
variable {H : Type} {enc : TypeId × Value → H} {P : Program}
theorem z8w (hl : laidOutB P = true) {W W' : World} (hb : Below W.heap.size W W') : ∀ {ts : List TypeId} {vs : List Value} {ds : List (DataW H)} {ps : List MemPlace},
  ts.all (fun t => P.readableRec t && decide (t < P.types.size)) = true → (∀ x ∈ ps, x.block < W.heap.size) → DataW.TrodAll enc P W 0 (fun _ => true) true ts vs ds ps →
  DataW.TrodAll enc P W' 0 (fun b => decide (b < W.heap.size)) true ts vs ds ps
 | [], vs, ds, ps, _, _, h => by
  obtain ⟨rfl, rfl, rfl⟩ := trodAll_nil h
  exact trodAll_mk0
 | t :: ts, vs, ds, ps, hp, hlt, h => by
  obtain ⟨v, vs', d, ds', p, q, rfl, rfl, rfl, h1, h2⟩ := trodAll_cons h
  simp only [List.all_cons, Bool.and_eq_true, decide_eq_true_eq] at hp
  exact ⟨p, q, Below.trod hl hp.1.1 hp.1.2 h1 hb (fun x hx => hlt x (by simp [hx])), z8w hl hb hp.2 (fun x hx => hlt x (by simp [hx])) h2, rfl⟩
/-- a law's post -/
theorem zie {fn : Func} {s : ChangeSpec} {W W' : World} {own' : Nat → Prop} {args : Array Value} {ds gs : List (DataW H)} {before : List MemPlace} {tb : TypeId} (hl : laidOutB P = true)
  (hp : fn.params.toList.all (fun t => P.readableRec t && decide (t < P.types.size)) = true) (hW : DataW.Whole enc P fn.params.toList s.vars false W args.toList ds gs before) (hE : Ext W (fun _ => False) W' own')
  (hv : s.vars = []) (hs : s.fn H ds = { results := [.lit (.bool true)], args := ds }) (hr : fn.resultTypes = #[tb]) (hb : P.underlying tb = some .bool) :
  s.post enc P fn false true false false W args (.bool true) W' := by
 have hlt := hW.lt
 have hW' := hW
 obtain ⟨p, q, hA, hV, rfl, hfz, hnd⟩ := hW
 rw [hv] at hV
 obtain ⟨rfl, rfl⟩ := trodVars_none hV
 simp only [List.append_nil] at hlt hfz hnd hW'
 refine ⟨ds, [], p, [], p, [], hW', ?_, ?_, ?_, Below.kept hE.toBelow _, fun h => by cases h⟩
 · rw [List.append_nil, hs, hr]
   exact trodAll_mk1 (shut_bool hb _)
 · rw [List.append_nil, hs]
   exact z8w hl hE.toBelow hp hlt hA
 · rw [List.append_nil, hs, hv]
   rfl
end
end Go.Ab
namespace Go.Ab
open Go.ChangeShapes Go.WideShapes Go.ChangeAt Go.RowKit
/-- what data of a type looks like: cells -/
inductive Sh (P : Program) : TypeId → List D → Prop where
 | int (t : TypeId) (k : IntKind) (z : Int) (ht : P.underlying t = some (.int k)) (h1 : k.min ≤ z) (h2 : z ≤ k.max) : Sh P t [.lit (.int k z)]
 | bool (t : TypeId) (b : Bool) (ht : P.underlying t = some .bool) : Sh P t [.lit (.bool b)]
 | str (t : TypeId) (s : ByteArray) (ht : P.underlying t = some .string) (hs : s.size ≤ maxLen) : Sh P t [.lit (.string s)]
 | slice (t e : TypeId) (xs : List (List D)) (ht : P.underlying t = some (.slice e)) (hl : xs.length ≤ maxLen) (hx : ∀ x ∈ xs, Sh P e x) : Sh P t [.slice xs]
 | struct (t : TypeId) (fs : List Field) (parts : List (List D)) (ht : P.underlying t = some (.struct fs.toArray)) (hl : parts.length = fs.length) (hp : ∀ (i : Nat) (f : Field) (x : List D), fs[i]? = some f → parts[i]? = some x → Sh P f.type x) : Sh P t parts.flatten
def zsw (P : Program) : Nat → List Field → Option Nat
 | o, [] => some o
 | o, f :: r => if f.offset = o then zsw P (o + P.cellsOf f.type) r else none
/-- types of data, closed under their parts -/
def zg0 (P : Program) (G : List TypeId) : Bool := G.all fun t => match P.underlying t with
 | some .bool => true
 | some (.int _) => true
 | some .string => true
 | some (.slice e) => G.contains e && decide (0 < P.cellsOf e)
 | some (.struct fs) => fs.toList.all (fun f => G.contains f.type) && zsw P 0 fs.toList == some (P.cellsOf t)
 | _ => false
def CD (w : World) (own : Nat → Prop) (ds : List D) (cs : List Value) : Prop :=
 ds.length = cs.length ∧ (∀ v ∈ cs, v.oneCell' = true) ∧ ∀ (j : Nat) (x : D) (v : Value), ds[j]? = some x → cs[j]? = some v → DR w own x v
theorem CD.one {w : World} {own : Nat → Prop} {x : D} {v : Value} (h : DR w own x v) (h1 : v.oneCell' = true) : CD w own [x] [v] :=
 ⟨rfl, by simpa using h1, fun j y u hy hu => by
   cases j with
   | zero => simp at hy hu; subst hy; subst hu; exact h
   | succ j => simp at hy⟩
theorem CD.nil {w : World} {own : Nat → Prop} : CD w own [] [] := ⟨rfl, by simp, by simp⟩
theorem CD.append {w : World} {own : Nat → Prop} {a b : List D} {u v : List Value} (h : CD w own a u) (h' : CD w own b v) : CD w own (a ++ b) (u ++ v) := by
 refine ⟨by simp [h.1, h'.1], fun x hx => ?_, fun j x y hx hy => ?_⟩
 · rw [List.mem_append] at hx
   exact hx.elim (h.2.1 x) (h'.2.1 x)
 · by_cases hj : j < a.length
   · rw [List.getElem?_append_left hj] at hx
     rw [List.getElem?_append_left (by rw [← h.1]; exact hj)] at hy
     exact h.2.2 j x y hx hy
   · rw [List.getElem?_append_right (by omega)] at hx
     rw [List.getElem?_append_right (by rw [← h.1]; omega)] at hy
     rw [← h.1] at hy
     exact h'.2.2 _ x y hx hy
theorem zl7 {P : Program} (cs : List Value) : ∀ (fs : List Field) (o e : Nat), zsw P o fs = some e → e ≤ cs.length → (fs.map fun f => (cs.drop f.offset).take (P.cellsOf f.type)).flatten = (cs.drop o).take (e - o) ∧ o ≤ e
 | [], o, e, h, he => by simp [zsw] at h; subst h; simp
 | f :: r, o, e, h, he => by
  rw [zsw] at h
  split at h
  · rename_i ho
    obtain ⟨h1, h2⟩ := zl7 cs r _ e h he
    refine ⟨?_, by omega⟩
    rw [List.map_cons, List.flatten_cons, h1, ho, show e - o = P.cellsOf f.type + (e - (o + P.cellsOf f.type)) by omega, List.take_add, List.drop_drop]
  · cases h
variable {H : Type} {enc : TypeId × Value → H} {P : Program}
theorem zkp {w : World} {own : Nat → Prop} : ∀ (parts : List (List D)) (vs : List (List Value)), parts.length = vs.length → (∀ (i : Nat) (a : List D) (b : List Value), parts[i]? = some a → vs[i]? = some b → CD w own a b) → CD w own parts.flatten vs.flatten
 | [], [], _, _ => CD.nil
 | a :: p, b :: v, hl, h => by
  rw [List.flatten_cons, List.flatten_cons]
  exact (h 0 a b rfl rfl).append (zkp p v (by simpa using hl) fun i x y hx hy => h (i + 1) x y (by simpa using hx) (by simpa using hy))
 | [], _ :: _, h, _ => by simp at h
 | _ :: _, [], h, _ => by simp at h
theorem z8e {α β : Type} {p : Nat → α → β → Prop} : ∀ (l : List α) (o : Nat), (∀ (i : Nat) (a : α), l[i]? = some a → ∃ b, p (o + i) a b) → ∃ r : List β, r.length = l.length ∧ ∀ (i : Nat) (a : α) (b : β), l[i]? = some a → r[i]? = some b → p (o + i) a b
 | [], o, h => ⟨[], rfl, by simp⟩
 | x :: l, o, h => by
  obtain ⟨b, hb⟩ := h 0 x rfl
  obtain ⟨r, h1, h2⟩ := z8e l (o + 1) fun i a ha => by
   obtain ⟨c, hc⟩ := h (i + 1) a (by simpa using ha)
   exact ⟨c, by rw [show o + 1 + i = o + (i + 1) by omega]; exact hc⟩
  refine ⟨b :: r, by simp [h1], fun i a c ha hc => ?_⟩
  cases i with
  | zero => simp at ha hc; subst ha; subst hc; exact hb
  | succ i =>
   have := h2 i a c (by simpa using ha) (by simpa using hc)
   rw [show o + (i + 1) = o + 1 + i by omega]; exact this
theorem Sh.inv_int {t : TypeId} {ds : List D} {k : IntKind} (h : Sh P t ds) (ht : P.underlying t = some (.int k)) : ∃ z : Int, ds = [.lit (.int k z)] ∧ k.min ≤ z ∧ z ≤ k.max := by
 cases h with
 | int _ k' z h1 h2 h3 => rw [ht] at h1; simp at h1; subst h1; exact ⟨z, rfl, h2, h3⟩
 | bool _ b h1 => rw [ht] at h1; simp at h1
 | str _ s h1 => rw [ht] at h1; simp at h1
 | slice _ e xs h1 => rw [ht] at h1; simp at h1
 | struct _ fs p h1 => rw [ht] at h1; simp at h1
theorem Sh.inv_slice {t e : TypeId} {ds : List D} (h : Sh P t ds) (ht : P.underlying t = some (.slice e)) : ∃ xs : List (List D), ds = [.slice xs] ∧ xs.length ≤ maxLen ∧ ∀ x ∈ xs, Sh P e x := by
 cases h with
 | int _ k' z h1 h2 h3 => rw [ht] at h1; simp at h1
 | bool _ b h1 => rw [ht] at h1; simp at h1
 | str _ s h1 hs => rw [ht] at h1; simp at h1
 | slice _ e' xs h1 h2 h3 => rw [ht] at h1; simp at h1; subst h1; exact ⟨xs, rfl, h2, h3⟩
 | struct _ fs p h1 => rw [ht] at h1; simp at h1
/-- a slice whose elements are of a known form -/
theorem Sh.inv_list {t e : TypeId} {ds : List D} {α : Type} (f : α → List D) (Q : α → Prop) (h : Sh P t ds) (ht : P.underlying t = some (.slice e)) (he : ∀ x, Sh P e x → ∃ a, x = f a ∧ Q a) : ∃ l : List α, ds = [.slice (l.map f)] ∧ l.length ≤ 9223372036854775807 ∧ ∀ a ∈ l, Q a := by
 obtain ⟨xs, rfl, h1, h2⟩ := h.inv_slice ht
 have : ∀ xs : List (List D), (∀ x ∈ xs, Sh P e x) → ∃ l : List α, xs = l.map f ∧ ∀ a ∈ l, Q a := by
  intro xs
  induction xs with
  | nil => exact fun _ => ⟨[], rfl, by simp⟩
  | cons x xs ih =>
   intro h
   obtain ⟨a, ha, hq⟩ := he x (h x (by simp))
   obtain ⟨l, hl, hq'⟩ := ih fun y hy => h y (by simp [hy])
   exact ⟨a :: l, by rw [ha, hl]; rfl, by simpa using ⟨hq, hq'⟩⟩
 obtain ⟨l, hl, hq⟩ := this xs h2
 refine ⟨l, by rw [hl], ?_, hq⟩
 have := congrArg List.length hl
 simp [maxLen] at this h1 ⊢
 omega
/-- cells of several types, one behind another -/
def ShL (P : Program) : List TypeId → List D → Prop
 | [], ds => ds = []
 | t :: ts, ds => ∃ a b, ds = a ++ b ∧ Sh P t a ∧ ShL P ts b
theorem Sh.inv_struct {t : TypeId} {ds : List D} {fs : Array Field} (h : Sh P t ds) (ht : P.underlying t = some (.struct fs)) : ShL P (fs.toList.map (·.type)) ds := by
 cases h with
 | int _ k' z h1 h2 h3 => rw [ht] at h1; simp at h1
 | bool _ b h1 => rw [ht] at h1; simp at h1
 | str _ s h1 hs => rw [ht] at h1; simp at h1
 | slice _ e' xs h1 h2 h3 => rw [ht] at h1; simp at h1
 | struct _ fs' p h1 hl hp =>
  rw [ht] at h1; simp at h1
  subst h1
  have : ∀ (fs : List Field) (p : List (List D)), p.length = fs.length → (∀ (i : Nat) (f : Field) (x : List D), fs[i]? = some f → p[i]? = some x → Sh P f.type x) → ShL P (fs.map (·.type)) p.flatten := by
   intro fs
   induction fs with
   | nil => intro p hl _; cases p with | nil => rfl | cons _ _ => simp at hl
   | cons f fs ih =>
    intro p hl hp
    cases p with
    | nil => simp at hl
    | cons x p =>
     exact ⟨x, p.flatten, rfl, hp 0 f x rfl rfl, ih p (by simpa using hl) fun i g y h1 h2 => hp (i + 1) g y (by simpa using h1) (by simpa using h2)⟩
  simpa using this fs' p hl hp
def fieldTypes (P : Program) (t : TypeId) : Option (List TypeId) := match P.underlying t with
 | some (.struct fs) => some (fs.toList.map (·.type))
 | _ => none
theorem z5k {t : TypeId} {ts : List TypeId} (h : fieldTypes P t = some ts) : ∃ fs, P.underlying t = some (.struct fs) ∧ fs.toList.map (·.type) = ts := by
 unfold fieldTypes at h
 cases hu : P.underlying t with
 | none => rw [hu] at h; simp at h
 | some u =>
  rw [hu] at h
  cases u <;> simp at h
  exact ⟨_, rfl, by simpa using h⟩
theorem Sh.inv_fields {t : TypeId} {ds : List D} {ts : List TypeId} (h : Sh P t ds) (ht : fieldTypes P t = some ts) : ShL P ts ds := by
 obtain ⟨fs, h1, h2⟩ := z5k ht
 rw [← h2]; exact h.inv_struct h1
end Go.Ab
namespace Go.Ab
open Go.RowKit Go.Sort
theorem zkg {w : World} {g : Nat} {cur : Array Value} {e : TypeId} {off : Nat} (h : w.heap[g]? = some (.cells cur e (0, 0))) : w.frozen? ⟨g, off, none⟩ = false := by
 simp [World.frozen?, h]
theorem cell_of {w : World} {g : Nat} {cur : Array Value} {e : TypeId} {off : Nat} (h : w.heap[g]? = some (.cells cur e (0, 0))) : w.cell? ⟨g, off, none⟩ = cur[off]? := by
 simp [World.cell?, h]
theorem zd4 {P : Program} {g : FuncId} {ps : List PV} {bs hs : List (Nm × Blk)} {p : PV} (hp : Plain P g)
  (h : ∀ (H : Hf), (∀ q ∈ bs, H q.1.1 q.1.2 = some q.2) → ∀ β own w vals, HR H β own w → z7f β w own ps vals → Calls P g vals.toArray w (zup (fun r H' => r = .v p ∧ H' = zf4 H hs) β own w)) : z36 P g ps bs hs p :=
 fun H hH => ⟨hp, h H hH⟩
end Go.Ab
namespace Go.Ab
variable {P : Program} {f : FuncId} {R : z3s} {k : List Item}
variable {n : Nat} {tm : List (Nat × PV)} {hp : Hp} {up : Hf}
theorem PR.take {β : Nm → Value} {w : World} {own : Nat → Prop} {m : Nm} {y : Nat} {p : PV} {v : Value} (h : PR β w own p v) (hs : p.says (0, y) = false) : PR (z69 β y (β m)) w own (p.take m y) v := by
 have h2 := h.reβ (β' := z69 β y (β m)) (0, y) (z2t β y _) hs
 cases p with
 | ptr q off =>
  simp only [PV.take]
  split
  · rename_i e; simp at e; subst e
    cases h with | ptr _ _ g hg => exact .ptr _ _ g (by rw [z2c]; exact hg)
  · exact h2
 | _ => exact h2
end Go.Ab
namespace Go.Ab
variable {P : Program} {f : FuncId} {R : z3s} {k : List Item} {all : Array Oper} {o : Oper} {l : List Oper}
variable {n : Nat} {tm : List (Nat × PV)} {hp : Hp} {up : Hf} {d : Nat} {ty : TypeId} {pos : String} {aft : Array Edge} {gd : Option (Nat × Bool)} {op : Op} {p : PV}
variable {k' : List Item} {s s' : St}
theorem Blk.lift_saysN (b : Blk) (j x : Nat) : ∀ i, (b.lift i).says (j + i, x) = b.says (j, x)
 | 0 => by
  cases b with
  | box cs =>
   show PV.saysL (j, x) (PV.liftL 0 cs) = PV.saysL (j, x) cs
   have h0 : ∀ p : PV, p.lift 0 = p := by
    intro p
    refine PV.rec (motive_1 := fun p => p.lift 0 = p) (motive_2 := fun ps => PV.liftL 0 ps = ps) ?_ ?_ ?_ ?_ ?_ ?_ ?_ ?_ ?_ ?_ ?_ ?_ ?_ ?_ ?_ p <;> intros <;> simp_all [PV.lift, PV.liftL]
   have : ∀ cs, PV.liftL 0 cs = cs := by
    intro cs; induction cs with
    | nil => rfl
    | cons p r ih => simp [PV.liftL, h0, ih]
   rw [this]
  | lp _ _ _ _ _ st _ _ =>
   show z4x (j, x) (z2x 0 st) = z4x (j, x) st
   have h0 : ∀ p : PV, p.lift 0 = p := by
    intro p
    refine PV.rec (motive_1 := fun p => p.lift 0 = p) (motive_2 := fun ps => PV.liftL 0 ps = ps) ?_ ?_ ?_ ?_ ?_ ?_ ?_ ?_ ?_ ?_ ?_ ?_ ?_ ?_ ?_ p <;> intros <;> simp_all [PV.lift, PV.liftL]
   have : ∀ st, z2x 0 st = st := by
    intro st; induction st with
    | nil => rfl
    | cons p r ih => obtain ⟨t, q⟩ := p; simp [z2x, h0, ih]
   rw [this]
  | _ => rfl
 | i + 1 => by rw [Blk.lift_comp, ← Nat.add_assoc, Blk.lift_says1]; exact Blk.lift_saysN b j x i
/-- no block (as its own frame has it) speaks of the name m -/
def z7x (H : Hf) (m : Nm) : Prop := ∀ e t b, e ≤ m.1 → H e t = some b → b.says (m.1 - e, m.2) = false
theorem zbl {H : Hf} {m : Nm} (h : z7x H m) {x : Nm} {c : Blk} (hc : z1f H x = some c) : c.says m = false := by
 obtain ⟨e, t⟩ := x
 obtain ⟨md, ms⟩ := m
 cases e with
 | zero => exact h 0 t c (Nat.zero_le _) hc
 | succ e =>
  simp only [z1f] at hc
  cases hu : H (e + 1) t with
  | none => rw [hu] at hc; cases hc
  | some q =>
   rw [hu] at hc; simp at hc; subst hc
   by_cases hle : e + 1 ≤ md
   · have := h (e + 1) t q hle hu
     have hl := Blk.lift_saysN q (md - (e + 1)) ms (e + 1)
     rw [show md - (e + 1) + (e + 1) = md by omega] at hl
     rw [hl]; exact this
   · have := Blk.lift_says0 (e - md) md ms q
     rw [show e - md + md + 1 = e + 1 by omega] at this
     exact this
theorem zci {m : Nat × Nat} (hq : z3j (m.1 + 1, m.2) hp = true) (hup : z7x up m) : z7x (push hp up) (m.1 + 1, m.2) := by
 intro e t b he hb
 cases e with
 | zero => exact z4j hq hb
 | succ e =>
  have := hup e t b (by omega) hb
  simpa [Nat.add_sub_add_right] using this
/-- a row of one's own handed to a caller under that caller's name for it, which is bound anew -/
theorem zjg (y md ms : Nat) {e kk : Nat} {xs : List (List D)} (hb : look hp y = some (.row e kk xs)) (hg : up md ms = some .gone) (hvol : R.vol (md, ms)) (hq : z3j (md + 1, ms) hp = true) (hup : z7x up (md, ms))
  (h : Run P f R k ⟨n, z6c (md + 1, ms) tm, (y, .gone) :: z3d (md + 1, ms) (0, y) hp, upd up (md, ms) (.row e kk xs)⟩) : Run P f R k ⟨n, tm, hp, up⟩ := by
 refine Run.stepV (s := ⟨n, tm, hp, up⟩) (s' := ⟨n, z6c (md + 1, ms) tm, (y, .gone) :: z3d (md + 1, ms) (0, y) hp, upd up (md, ms) (.row e kk xs)⟩) (fun β own a w hr b' fs => ?_) h
 let β' : Nm → Value := fun m => if m = (md + 1, ms) then β (0, y) else β m
 have hne : ∀ m, m ≠ (md + 1, ms) → β' m = β m := fun m hm => by simp [β', hm]
 have hsame : β' (md + 1, ms) = β' (0, y) := by simp [β']
 have hy : β' (0, y) = β (0, y) := hne _ (by simp)
 have hold : ∀ m c, z1f (push hp up) m = some c → c.says (md + 1, ms) = false := fun m c hc => zbl (zci (m := (md, ms)) hq hup) hc
 have hgone : z1f (push hp up) (md + 1, ms) = some .gone := by simp [z1f, push, hg, Blk.lift]
 have h1 : HR (push hp up) β' own w := by
  refine ⟨fun m c hc => ?_, fun m1 m2 c1 c2 e1 e2 l1 l2 hn => ?_, hr.heap.lt⟩
  · by_cases hm : m = (md + 1, ms)
    · subst hm
      rw [hgone] at hc; simp at hc; subst hc; exact .gone _
    · rw [hne m hm]; exact (hr.heap.blk m c hc).reβ (md + 1, ms) hne (hold m c hc)
  · have hg1 : ∀ m c, z1f (push hp up) m = some c → c.live = true → m ≠ (md + 1, ms) := by
     rintro m c hc hl rfl
     rw [hgone] at hc; simp at hc; subst hc; cases hl
    rw [hne m1 (hg1 m1 c1 e1 l1), hne m2 (hg1 m2 c2 e2 l2)]
    exact hr.heap.inj m1 m2 c1 c2 e1 e2 l1 l2 hn
 have h2 := h1.alias (hp := hp) hsame
 refine ⟨β', own, a, w, ⟨hr.size, hr.defers, fun t p hp' => ?_, ?_⟩, Ext.refl _ _, fun m hm => ?_, .refl _ _⟩
 · simp only at hp'
   rw [z5l] at hp'
   cases hq' : look tm t with
   | none => rw [hq'] at hp'; cases hp'
   | some q => rw [hq'] at hp'; simp at hp'; subst hp'; exact (hr.tm t q hq').drop hne
 · have hrow : z1f (push (z3d (md + 1, ms) (0, y) hp) up) (0, y) = some (.row e kk xs) := by
    show look (z3d (md + 1, ms) (0, y) hp) y = _
    rw [z62, hb]; rfl
   have key : ∀ m c, z1f (push ((y, .gone) :: z3d (md + 1, ms) (0, y) hp) (upd up (md, ms) (.row e kk xs))) m = some c → c.live = true → (m = (md + 1, ms) ∧ c = .row e kk xs) ∨ (m ≠ (md + 1, ms) ∧ m ≠ (0, y) ∧ z1f (push (z3d (md + 1, ms) (0, y) hp) up) m = some c) := by
    intro m c hm hc
    rw [z2f] at hm
    by_cases e1 : m = (0, y)
    · rw [if_pos e1] at hm; simp at hm; subst hm; cases hc
    · rw [if_neg e1, z5i, z30] at hm
      by_cases e2 : m = (md + 1, ms)
      · rw [if_pos e2] at hm; simp [atF, Blk.lift] at hm; exact .inl ⟨e2, hm.symm⟩
      · rw [if_neg e2] at hm; exact .inr ⟨e2, e1, hm⟩
   refine ⟨fun m c hm => ?_, fun m1 m2 c1 c2 e1 e2 l1 l2 hn g hg' => ?_, h2.lt⟩
   · cases hc : c.live with
     | false => cases c <;> first | (simp [Blk.live] at hc; done) | exact .gone _
     | true =>
      rcases key m c hm hc with ⟨rfl, rfl⟩ | ⟨_, _, h3⟩
      · rw [hsame]; exact h2.blk _ _ hrow
      · exact h2.blk m c h3
   · rcases key m1 c1 e1 l1 with ⟨rfl, rfl⟩ | ⟨n1, n1', h3⟩
     · rcases key m2 c2 e2 l2 with ⟨rfl, rfl⟩ | ⟨n2, n2', h4⟩
       · exact absurd rfl hn
       · rw [hsame] at hg'
         exact h2.inj (0, y) m2 _ c2 hrow h4 l1 l2 (Ne.symm n2') g hg'
     · rcases key m2 c2 e2 l2 with ⟨rfl, rfl⟩ | ⟨n2, n2', h4⟩
       · rw [hsame]
         exact h2.inj m1 (0, y) c1 _ h3 hrow l1 l2 n1' g hg'
       · exact h2.inj m1 m2 c1 c2 h3 h4 l1 l2 hn g hg'
 · refine hne _ fun e => hm ?_
   simp only [Prod.mk.injEq] at e
   have : m = (md, ms) := Prod.ext (by omega) e.2
   subst this
   exact hvol
/-! contracts that bind the name m of a row anew -/
def zkf (H : Hf) (bs : List (Nm × Blk)) (m : Nm) : Prop := ∀ e t b, e ≤ m.1 → (∀ q ∈ bs, q.1 ≠ (e, t)) → H e t = some b → b.says (m.1 - e, m.2) = false
def z5r (P : Program) (g : FuncId) (args : List PV) (bs hs : List (Nm × Blk)) (p : PV) (m : Nm) : Prop :=
 ∀ H : Hf, (∀ q ∈ bs, H q.1.1 q.1.2 = some q.2) → zkf H bs m → z99 P g args H ⟨fun r H' => r = .v p ∧ H' = zf4 H hs, fun n => n = m, none⟩
/-- an operation that calls a function that may bind anew what R allows -/
theorem zh7 {g : FuncId} (hc : ∀ β own a w, Rep s β own a w → ∃ vals w1 own1, (execOp a.eval o).run P w = .ok (.enter g vals) w1 ∧ Ext w own w1 own1 ∧
   Calls P g vals w1 fun e w' => ∃ v β' own' s', e = .returned v ∧ Rep s' β' own' (a.put o.dst v) w' ∧ Ext w1 own1 w' own' ∧ (∀ x, ¬ R.vol x → z5s β' x = z5s β x) ∧ Ops P f R all l k s') : Op1 P f R all o l k s := by
 intro i rest ho hrest β own a w hrep hw b hb hk hn cs
 obtain ⟨vals, w1, own1, hrun, hext1, hcall⟩ := hc β own a w hrep
 obtain ⟨e, w', fr, ⟨v, β', own', s', rfl, hrep', hext, hout, hops⟩, hsteps, _, hleave⟩ := hcall (am b a (.inRegion all (i :: rest) :: k) :: cs)
 have hn' : z8y R (z5s β') b := by
  unfold z8y at hn ⊢
  cases hm : R.rnd with
  | none => rw [hm] at hn; exact hn
  | some m =>
   rw [hm] at hn
   obtain ⟨hv, L, h1, h2⟩ := hn
   exact ⟨hv, L, h1, (hout m hv).trans h2⟩
 exact (((hops rest hrest β' own' _ w' hrep' b hb hk hn' cs).same hout).ext (hext1.trans hext)).of_steps (zgn ho hw hrun hsteps hleave)
/-! rounds -/
/-- a round of the loop m, from a call of its yield -/
def zea (P : Program) (m : Nm) (args : List PV) (H : Hf) (R : z9t) (vol : Nm → Prop) : Prop :=
 ∀ β own w vals L, HR H β own w → z7f β w own args vals → β m = .pointer (some ⟨L, 0, none⟩) →
  ∃ g tmps asg body, (Instr.yield L vals.toArray).run P w = .ok (.round L g tmps asg body) w ∧ ∀ (c : Frame) cs, ∃ w' v r H' own' β',
   Steps P (lone (Frame.round L g tmps asg body .normal) (c :: cs) w) (lone (c.finish v) cs w') ∧ R r H' ∧ RVR H' β' w' own' r v ∧ HR H' β' own' w' ∧ Ext w own w' own' ∧ ∀ x, ¬ vol x → β' x = β x
/-- the round's frame: its busy loop -/
theorem zbx {m : Nm} {n' : Nat} {f' : FuncId} {ps : Array Tmp} {asg body : Code} {st : List (Nat × PV)} {pend : Option Code} (hrnd : R.rnd = some m) (hb : up m.1 m.2 = some (.lp n' f' ps asg body st .ready pend))
  (h : Run P f R k ⟨n, tm, hp, upd up m (.lp n' f' ps asg body st .busy pend)⟩) : Run P f R (.beginRound :: k) ⟨n, tm, hp, up⟩ := by
 intro β own a w hrep b hb' hk hn cs
 have hn0 := hn
 unfold z8y at hn
 rw [hrnd] at hn
 obtain ⟨hv, L, hL, hβ⟩ := hn
 have hlook : z1f (push hp up) (m.1 + 1, m.2) = some ((Blk.lp n' f' ps asg body st .ready pend).lift (m.1 + 1)) := by simp [z1f, push, hb]
 have hbr := hrep.heap.blk _ _ hlook
 have hβ' : β (m.1 + 1, m.2) = .pointer (some ⟨L, 0, none⟩) := hβ
 simp only [Blk.lift] at hbr
 generalize hgv : β (m.1 + 1, m.2) = vv at hbr
 cases hbr with
 | lp g _ _ _ _ _ _ _ _ tmps df ho hg hl hd =>
  rw [hβ'] at hgv
  simp at hgv
  subst hgv
  have hgl : L < w.heap.size := (Array.getElem?_eq_some_iff.1 hg).1
  have hrun := run_beginRound (P := P) hg rfl
  obtain ⟨w1, hw1⟩ : ∃ w1, w.putObj L (.loop { state := .busy, pending := pend, fn := f', tmps := tmps, params := ps, assign := asg, body := body, defers := df }) = w1 := ⟨_, rfl⟩
  rw [show ({ state := LoopState.busy, pending := pend, fn := f', tmps := tmps, params := ps, assign := asg, body := body, defers := df } : Loop) = { ({ state := .ready, pending := pend, fn := f', tmps := tmps, params := ps, assign := asg, body := body, defers := df } : Loop) with state := .busy } from rfl] at hw1
  rw [hw1] at hrun
  have hoth : ∀ g, g ≠ L → w1.heap[g]? = w.heap[g]? := fun g hg' => by rw [← hw1]; exact World.putObj_heap_other hg'
  have hhere : w1.heap[L]? = some (.loop { state := .busy, pending := pend, fn := f', tmps := tmps, params := ps, assign := asg, body := body, defers := df }) := by rw [← hw1]; exact World.putObj_heap_same hgl
  have hsz : w1.heap.size = w.heap.size := by rw [← hw1]; simp
  have hE : Ext w own w1 own := ⟨by rw [← hw1]; rfl, by rw [← hw1]; rfl, by rw [← hw1]; rfl, by omega, fun g hg' hog => hoth g fun e => hog (e ▸ ho), fun _ _ h => h⟩
  have hR1 := hrep.heap.change (m := (m.1 + 1, m.2)) (raw := .lp n' f' ps asg body st .busy pend) hlook rfl hE hsz (fun g hg' => hoth g fun e => hg' (by rw [hβ', e]; rfl)) (by
   rw [hβ']
   show BR β w1 own _ (.lp n' f' ps asg body (z2x (m.1 + 1) st) .busy pend)
   exact .lp L n' f' ps asg body _ .busy pend tmps df ho hhere hl fun t p hp => (hd t p hp).mono hE)
  have hrep1 : Rep ⟨n, tm, hp, upd up m (.lp n' f' ps asg body st .busy pend)⟩ β own a w1 := ⟨hrep.size, hrep.defers, fun t p hp => (hrep.tm t p hp).mono hE, by rw [show upd up m (.lp n' f' ps asg body st .busy pend) = upd up (m.1, m.2) (.lp n' f' ps asg body st .busy pend) from rfl, z5i]; exact hR1⟩
  exact ((h β own a w1 hrep1 b hb' hk hn0 cs).ext hE).of_steps (.one (stepR_beginRound hL hrun))
end Go.Ab
namespace Go.Ab
variable {P : Program} {f : FuncId} {R : z3s} {k : List Item} {all : Array Oper} {o : Oper} {l : List Oper}
variable {n : Nat} {tm : List (Nat × PV)} {hp : Hp} {up : Hf} {d : Nat} {ty : TypeId} {pos : String} {aft : Array Edge} {gd : Option (Nat × Bool)} {op : Op} {p : PV}
variable {k' : List Item} {s s' : St}
/-- what a loop's block says -/
theorem zdq {H : Hf} {β : Nm → Value} {own : Nat → Prop} {w : World} (hr : HR H β own w) {m : Nm} {n' : Nat} {f' : FuncId} {ps : Array Tmp} {asg body : Code} {st : List (Nat × PV)} {state : LoopState} {pend : Option Code} (hb : H m.1 m.2 = some (.lp n' f' ps asg body st state pend)) :
  ∃ L tmps df, β m = .pointer (some ⟨L, 0, none⟩) ∧ own L ∧ w.heap[L]? = some (.loop { state, pending := pend, fn := f', tmps, params := ps, assign := asg, body, defers := df }) ∧ tmps.size = n' ∧
   ∀ t q, (t, q) ∈ st → PR (inn β) w own (q.lift (m.1 + 1)) (tmps.getD t undef) := by
 obtain ⟨md, ms⟩ := m
 cases md with
 | zero =>
  have hbr := hr.blk (0, ms) _ (show z1f H (0, ms) = some _ from hb)
  generalize hgv : β (0, ms) = vv at hbr
  cases hbr with
  | lp g _ _ _ _ _ _ _ _ tmps df ho hg hl hd => exact ⟨g, tmps, df, rfl, ho, hg, hl, fun t q hq => PR.lift (β := inn β) (by rw [z5z]; exact hd t q hq)⟩
 | succ md =>
  have hbr := hr.blk (md + 1, ms) _ (show z1f H (md + 1, ms) = some _ by simp only [z1f, hb]; rfl)
  simp only [Blk.lift] at hbr
  generalize hgv : β (md + 1, ms) = vv at hbr
  cases hbr with
  | lp g _ _ _ _ _ _ _ _ tmps df ho hg hl hd =>
   refine ⟨g, tmps, df, rfl, ho, hg, hl, fun t q hq => ?_⟩
   have := PR.lift (β := inn β) (by rw [z5z]; exact hd t _ (z8d hq))
   rwa [PV.lift_lift] at this
/-- the state of a loop's block turns -/
theorem zoq {H : Hf} {β : Nm → Value} {own : Nat → Prop} {w : World} (hr : HR H β own w) {m : Nm} {n' : Nat} {f' : FuncId} {ps : Array Tmp} {asg body : Code} {st : List (Nat × PV)} {state state' : LoopState} {pend pend' : Option Code} (hb : H m.1 m.2 = some (.lp n' f' ps asg body st state pend))
  {L : Nat} {tmps : Array Value} {df : Nat} (hβ : β m = .pointer (some ⟨L, 0, none⟩)) (ho : own L) (hg : w.heap[L]? = some (.loop { state, pending := pend, fn := f', tmps, params := ps, assign := asg, body, defers := df })) :
  Ext w own (w.putObj L (.loop { state := state', pending := pend', fn := f', tmps, params := ps, assign := asg, body, defers := df })) own ∧
  HR (upd H m (.lp n' f' ps asg body st state' pend')) β own (w.putObj L (.loop { state := state', pending := pend', fn := f', tmps, params := ps, assign := asg, body, defers := df })) := by
 obtain ⟨w1, hw1⟩ : ∃ w1, w.putObj L (.loop { state := state', pending := pend', fn := f', tmps, params := ps, assign := asg, body, defers := df }) = w1 := ⟨_, rfl⟩
 rw [hw1]
 have hgl : L < w.heap.size := (Array.getElem?_eq_some_iff.1 hg).1
 have hoth : ∀ g, g ≠ L → w1.heap[g]? = w.heap[g]? := fun g hg' => by rw [← hw1]; exact World.putObj_heap_other hg'
 have hhere : w1.heap[L]? = some (.loop { state := state', pending := pend', fn := f', tmps := tmps, params := ps, assign := asg, body := body, defers := df }) := by rw [← hw1]; exact World.putObj_heap_same hgl
 have hsz : w1.heap.size = w.heap.size := by rw [← hw1]; simp
 have hE : Ext w own w1 own := ⟨by rw [← hw1]; rfl, by rw [← hw1]; rfl, by rw [← hw1]; rfl, by omega, fun g hg' hog => hoth g fun e => hog (e ▸ ho), fun _ _ h => h⟩
 refine ⟨hE, ?_⟩
 obtain ⟨md, ms⟩ := m
 cases md with
 | zero =>
  have hlook : z1f H (0, ms) = some (.lp n' f' ps asg body st state pend) := hb
  have hbr := hr.blk (0, ms) _ hlook
  refine hr.change (m := (0, ms)) (raw := .lp n' f' ps asg body st state' pend') hlook rfl hE hsz (fun g hg' => hoth g fun e => hg' (by rw [hβ, e]; rfl)) ?_
  show BR β w1 own (β (0, ms)) (.lp n' f' ps asg body st state' pend')
  rw [hβ] at hbr ⊢
  cases hbr with
  | lp g _ _ _ _ _ _ _ _ tmps' df' ho' hg' hl hd =>
   rw [hg] at hg'; simp at hg'
   obtain ⟨rfl, rfl⟩ := hg'
   exact .lp L n' f' ps asg body _ state' pend' tmps df ho hhere hl fun t p hp => (hd t p hp).mono hE
 | succ md =>
  have hlook : z1f H (md + 1, ms) = some (.lp n' f' ps asg body (z2x (md + 1) st) state pend) := by
   simp only at hb; simp only [z1f, hb]; rfl
  have hbr := hr.blk (md + 1, ms) _ hlook
  refine hr.change (m := (md + 1, ms)) (raw := .lp n' f' ps asg body st state' pend') hlook rfl hE hsz (fun g hg' => hoth g fun e => hg' (by rw [hβ, e]; rfl)) ?_
  show BR β w1 own (β (md + 1, ms)) (.lp n' f' ps asg body (z2x (md + 1) st) state' pend')
  rw [hβ] at hbr ⊢
  cases hbr with
  | lp g _ _ _ _ _ _ _ _ tmps' df' ho' hg' hl hd =>
   rw [hg] at hg'; simp at hg'
   obtain ⟨rfl, rfl⟩ := hg'
   exact .lp L n' f' ps asg body _ state' pend' tmps df ho hhere hl fun t p hp => (hd t p hp).mono hE
/-- how a round that left at jump leaves its loop -/
def zjr (n' : Nat) (f' : FuncId) (ps : Array Tmp) (asg body : Code) (st : List (Nat × PV)) (jump : Option Code) : Blk := .lp n' f' ps asg body st (if jump.isNone then .ready else .done) jump
theorem zl1 {fr : Frame} (h : fr.mode = .run) : fr = fr.atR { tmps := fr.tmps, defers := fr.defers } fr.todo := by
 cases fr; simp at h; subst h; rfl
/-- a round, by running the loop's body -/
theorem ztw {m : Nm} {H : Hf} {n' : Nat} {f' : FuncId} {t0 : Tmp} {asg body : Code} {st : List (Nat × PV)} {arg : PV} {R2 R' : z9t} {vol : Nm → Prop} {pend : Option Code}
  (hb : H m.1 m.2 = some (.lp n' f' #[t0] asg body st .ready pend)) (ht0 : t0 < n') (hvm : ¬ vol m)
  (h : Run P f' ⟨R2, vol, some m⟩ [.code asg, .beginRound, .code body] ⟨n', (t0, arg.lift 1) :: z2x (m.1 + 1) st, [], H⟩)
  (hend : ∀ H', R2 (.v (B true)) H' → ∃ st' pd, H' m.1 m.2 = some (.lp n' f' #[t0] asg body st' .busy pd) ∧ R' (.v (B true)) (upd H' m (zjr n' f' #[t0] asg body st' none)))
  (hret : ∀ H', R2 (.v (B false)) H' → ∃ st' pd, H' m.1 m.2 = some (.lp n' f' #[t0] asg body st' .busy pd) ∧ R' (.v (B false)) (upd H' m (zjr n' f' #[t0] asg body st' (some .ret))))
  (hexit : ∀ (id : Nat) H', R2 (.v (I .i64 (id : Nat))) H' → ∃ st' pd, H' m.1 m.2 = some (.lp n' f' #[t0] asg body st' .busy pd) ∧ R' (.v (B false)) (upd H' m (zjr n' f' #[t0] asg body st' (some (.exit id))))) :
  zea P m [arg] H R' vol := by
 intro β own w vals L0 hr hargs hβ0
 obtain ⟨L, tmps, df, hβ, ho, hg, hsz, hfacts⟩ := zdq hr hb
 obtain rfl : L0 = L := by rw [hβ] at hβ0; simpa using hβ0.symm
 obtain ⟨hl, ha⟩ := hargs
 obtain ⟨v, rfl⟩ : ∃ v, vals = [v] := by
  match vals, hl with
  | [v], _ => exact ⟨v, rfl⟩
 have hav := ha 0 arg v rfl rfl
 refine ⟨f', tmps.setIfInBounds t0 v, asg, body, ?_, fun c cs => ?_⟩
 · have := run_yield (P := P) (args := [v].toArray) hg (by simp)
   simpa using this
 let b : Frame := { fn := f', tmps := #[], todo := [], defers := [], mode := .run, kind := .normal, roundOf := some L0 }
 have hstart : Frame.round L0 f' (tmps.setIfInBounds t0 v) asg body .normal = am b { tmps := tmps.setIfInBounds t0 v, defers := [] } [.code asg, .beginRound, .code body] := by
  simp [Frame.round, am, Frame.atR, b]
 have hrep : Rep ⟨n', (t0, arg.lift 1) :: z2x (m.1 + 1) st, [], H⟩ (inn β) own { tmps := tmps.setIfInBounds t0 v, defers := [] } w := by
  refine ⟨by simpa using hsz, rfl, fun t p hp => ?_, hr.inner⟩
  simp only [look] at hp
  split at hp
  · rename_i e; subst e
    simp at hp; subst hp
    have : (tmps.setIfInBounds t0 v).getD t0 undef = v := by simp [Array.getD_eq_getD_getElem?, hsz, ht0]
    rw [this]
    exact PR.lift (β := inn β) (by rw [z5z]; exact hav)
  · rename_i e
    have hmem : ∀ {l : List (Nat × PV)} {t : Nat} {p : PV}, look l t = some p → (t, p) ∈ l := by
     intro l
     induction l with
     | nil => intro t p h; simp [look] at h
     | cons x r ih =>
      obtain ⟨u, q⟩ := x
      intro t p h
      simp only [look] at h
      split at h
      · rename_i e; subst e; simp at h; subst h; simp
      · exact List.mem_cons_of_mem _ (ih h)
    obtain ⟨q, h1, rfl⟩ := z9x (hmem hp)
    have hne : (tmps.setIfInBounds t0 v).getD t undef = tmps.getD t undef := by
     simp only [Array.getD_eq_getD_getElem?]; rw [Array.getElem?_setIfInBounds_ne e]
    rw [hne]
    exact hfacts t q h1
 obtain ⟨w', fr, r, H', ownm, β', h1, h2, h3, h4, h5, h6, h7, h8, v', h9, h10, h11⟩ := h (inn β) own _ w hrep b rfl rfl ⟨hvm, L0, rfl, by rw [z5z]; exact hβ⟩ (c :: cs)
 rw [z5z] at h6
 subst h10
 have hβm : β' m = .pointer (some ⟨L0, 0, none⟩) := (h6 m hvm).trans hβ
 have hfr := zl1 h7
 have fin : ∀ (jump : Option Code) (st' : List (Nat × PV)) (pd : Option Code) (vv : Bool), H' m.1 m.2 = some (.lp n' f' #[t0] asg body st' .busy pd) → R' (.v (B vv)) (upd H' m (zjr n' f' #[t0] asg body st' jump)) → jump.isNone = vv →
   (∀ w2, (Instr.endRound L0 jump).run P w' = .ok (.bool vv) w2 → step P (lone fr (c :: cs) w') = .next (lone (c.finish (.bool vv)) cs w2)) →
   ∃ w' v' r H' own' β', Steps P (lone (Frame.round L0 f' (tmps.setIfInBounds t0 v) asg body .normal) (c :: cs) w) (lone (c.finish v') cs w') ∧ R' r H' ∧ RVR H' β' w' own' r v' ∧ HR H' β' own' w' ∧ Ext w own w' own' ∧ ∀ x, ¬ vol x → β' x = β x := by
  intro jump st' pd vv hb' hR' hj hstep
  obtain ⟨L', tmps', df', hβ'', ho', hg', _, _⟩ := zdq h11 hb'
  obtain rfl : L0 = L' := by rw [hβ''] at hβm; simpa using hβm.symm
  have hrun := run_endRound (P := P) jump hg'
  rw [hj] at hrun
  obtain ⟨hE, hR2⟩ := zoq (state' := if jump.isNone then .ready else .done) (pend' := jump) h11 hb' hβ'' ho' hg'
  rw [hj] at hE hR2
  have hst := hstep _ hrun
  refine ⟨_, _, _, _, ownm, β', Steps.trans (by rw [hstart]; exact h1) (.one hst), hR', .v _ _ (.d _ _ (.lit _ rfl)), ?_, h5.trans hE, h6⟩
  rw [zjr, hj]; exact hR2
 rcases h9 with ⟨e1, rfl⟩ | ⟨⟨k', e1⟩, rfl⟩ | ⟨id, k', e1, e2, rfl⟩
 · obtain ⟨st', pd, hb', hR'⟩ := hend H' h4
   refine fin none st' pd true hb' hR' rfl fun w2 hw2 => ?_
   rw [hfr, e1]
   exact stepR_round_end (b := fr) (by rw [h8]) h3 hw2
 · obtain ⟨st', pd, hb', hR'⟩ := hret H' h4
   refine fin (some .ret) st' pd false hb' hR' rfl fun w2 hw2 => ?_
   rw [hfr, e1]
   exact stepR_round_ret (b := fr) (by rw [h8]) h3 hw2
 · obtain ⟨st', pd, hb', hR'⟩ := hexit id H' h4
   refine fin (some (.exit id)) st' pd false hb' hR' rfl fun w2 hw2 => ?_
   rw [hfr, e1]
   exact stepR_round_exit (b := fr) (by rw [h8]) h3 e2 hw2
/-- a call of yield -/
theorem zpu {fo : Operand} {args : List Operand} {m mv : Nm} {ps : List PV} {ats : Array TypeId} {R' : z9t} (hsp : zea P m ps (push hp up) R' (fun x => x = mv)) (hfo : St.ev ⟨n, tm, hp, up⟩ fo = some (.yl m)) (hev : St.evs ⟨n, tm, hp, up⟩ args = some ps)
  (hv : ∀ x : Nm, mv = (x.1 + 1, x.2) → R.vol x) (hd : d < n) (hk : ∀ r H, R' r H → ∃ p hp' up', r = .v p ∧ H = push hp' up' ∧ Ops P f R all l k ⟨n, (d, p) :: z6c mv tm, hp', up'⟩) :
  Op1 P f R all ⟨some d, .call ⟨.value fo, args.toArray, ats⟩, ty, pos, aft, gd⟩ l k ⟨n, tm, hp, up⟩ := by
 intro i rest ho hrest β own a w hrep hw b hb hk' hn cs
 have hfv := hrep.ev hfo
 generalize hvv : a.eval fo = vv at hfv
 cases hfv with
 | yl _ L hβ =>
  have hargs := hrep.evs hev
  obtain ⟨g, tmps, asg, body, hrun, hround⟩ := hsp β own w (args.map a.eval) L hrep.heap hargs hβ
  have hexec : (execOp a.eval ⟨some d, .call ⟨.value fo, args.toArray, ats⟩, ty, pos, aft, gd⟩).run P w = .ok (.round L g tmps asg body) w := by
   simp [execOp, resolve, hvv, Deferred.ofValue, invoke]
   simpa using hrun
  obtain ⟨w', v, r, H, own', β', hst, hR, hrv, hheap, hext, hβ'⟩ := hround (am b a (.inRegion all (i :: rest) :: k)) cs
  obtain ⟨p, hp', up', rfl, rfl, hops⟩ := hk r H hR
  have hout : ∀ x, ¬ R.vol x → z5s β' x = z5s β x := fun x hx => hβ' _ fun e => hx (hv x e.symm)
  have hn' : z8y R (z5s β') b := by
   unfold z8y at hn ⊢
   cases hm : R.rnd with
   | none => rw [hm] at hn; exact hn
   | some m =>
    rw [hm] at hn
    obtain ⟨hv, L, h1, h2⟩ := hn
    exact ⟨hv, L, h1, (hout m hv).trans h2⟩
  cases hrv with
  | v _ _ hpv =>
   have hr' : Rep ⟨n, z6c mv tm, hp', up'⟩ β' own' a w' := by
    refine ⟨hrep.size, hrep.defers, fun t q hq => ?_, hheap⟩
    simp only at hq
    rw [z5l] at hq
    cases hq' : look tm t with
    | none => rw [hq'] at hq; cases hq
    | some q0 => rw [hq'] at hq; simp at hq; subst hq; exact ((hrep.tm t q0 hq').mono hext).drop hβ'
   have hr2 := hr'.put (dst := some d) (p := p) (v := v) (by simp [St.fits, hd]) hpv
   have hgo := stepGR_op (P := P) (b := b) (a := { a with defers := b.defers }) (k := k) (cs := cs) (w := w) (rest := rest) ho hw
   have hfin : ∀ v, (am b a (.inRegion all (i :: rest) :: k)).finish v = am b (a.put (some d) v) (.inRegion all rest :: k) := by
    intro v; rw [z7a, ho]; rfl
   have hsem := z7j (ro := b.roundOf) hexec (by simp)
   rw [← z9c b a] at hsem
   have henter : step P (lone (am b a (.inRegion all (i :: rest) :: k)) cs w) = .next (lone (Frame.round L g tmps asg body .normal) (am b a (.inRegion all (i :: rest) :: k) :: cs) w) :=
    step_lone_go (by
     rw [show am b a (.inRegion all (i :: rest) :: k) = b.atR { a with defers := b.defers } (.inRegion all (i :: rest) :: k) from rfl]
     rw [hgo]; simp [stepG.apply, hsem, Frame.atR])
   rw [hfin] at hst
   exact (((hops rest hrest β' own' _ w' hr2 b hb hk' hn' cs).same hout).ext hext).of_steps (.head henter hst)
end Go.Ab
namespace Go.Ab
variable {P : Program} {f : FuncId} {R : z3s} {k : List Item}
variable {n : Nat} {tm : List (Nat × PV)} {hp : Hp} {up : Hf}
theorem z8b (ls ms : Nat) (st : List (Nat × PV)) {g : Operand} {ps : Array Tmp} {asg body : Code} {gf : FuncId} {cap : List PV} {R' : z3s} (hrnd : R.rnd = none) (hgv : St.ev ⟨n, tm, hp, up⟩ g = some (.fn (.func gf) [] cap))
  (hst : zuf st tm) (hfr : (z1r ls hp && z1t ls tm) = true) (hms : (ms == ls) = false)
  (hsp : z99 P gf (.yl (0, ls) :: cap) (push ((ls, .lp n f ps asg body st .ready none) :: hp) up) R') (hv : ∀ m, R'.vol m → m = (0, ms))
  (hk : ∀ r H, R'.post r H → ∃ state jump st' hp' up', H = push ((ls, .lp n f ps asg body st' state jump) :: hp') up' ∧ state ≠ .busy ∧ Run P f R ((jump.map Item.code).toList ++ k) ⟨n, z6c (0, ms) tm, (ls, .gone) :: hp', up'⟩) :
  Run P f R (.code (.rangeFunc g ps asg body) :: k) ⟨n, tm, hp, up⟩ := by
 intro β own a w hrep b hb hbk hn cs
 have hb0 : b.roundOf = none := by rw [z8y, hrnd] at hn; exact hn
 have hfr' := hfr
 simp only [Bool.and_eq_true] at hfr'
 have hsub := zvj hst
 obtain ⟨L, hL⟩ : ∃ L, w.heap.size + 1 = L := ⟨_, rfl⟩
 obtain ⟨w0, hw0⟩ : ∃ w0, w.alloc (.deferred (some [])) = w0 := ⟨_, rfl⟩
 obtain ⟨lo, hlo⟩ : ∃ lo : Loop, lo = { state := .ready, pending := none, fn := f, tmps := a.tmps, params := ps, assign := asg, body, defers := w.heap.size } := ⟨_, rfl⟩
 obtain ⟨w1, hw1⟩ : ∃ w1, w0.alloc (.loop lo) = w1 := ⟨_, rfl⟩
 have hs0 : w0.heap.size = w.heap.size + 1 := by rw [← hw0]; exact World.size_alloc _ _
 have hs1 : w1.heap.size = w.heap.size + 2 := by rw [← hw1, World.size_alloc, hs0]
 have hoth : ∀ i, i < w.heap.size → w1.heap[i]? = w.heap[i]? := fun i hi => by
  rw [← hw1, alloc_old _ _ _ (by omega), ← hw0, alloc_old _ _ _ hi]
 have hD1 : w1.heap[w.heap.size]? = some (.deferred (some [])) := by
  rw [← hw1, alloc_old _ _ _ (by omega), ← hw0]; exact World.alloc_heap_new _ _
 have hL1 : w1.heap[L]? = some (.loop lo) := by
  rw [← hw1, ← hL, ← hs0]; exact World.alloc_heap_new _ _
 -- the own blocks now
 let own1 : Nat → Prop := fun g => own g ∨ g = L
 have hE1 : Ext w own w1 own1 := ⟨by rw [← hw1, ← hw0]; rfl, by rw [← hw1, ← hw0]; rfl, by rw [← hw1, ← hw0]; rfl, by omega, fun i hi _ => hoth i hi, fun i hi ho h => by
  rcases h with h | h
  · exact ho h
  · omega⟩
 have hrep1 : Rep ⟨n, tm, (ls, .lp n f ps asg body st .ready none) :: hp, up⟩ (z69 β ls (.pointer (some ⟨L, 0, none⟩))) own1 a w1 := by
  refine hrep.install hfr hE1 (fun i hi => ?_) (fun m c hm hc hne i hi => ⟨hoth i (hrep.heap.lt i ((hrep.heap.blk m c hm).block_lt hc hi)), .inl ((hrep.heap.blk m c hm).block_lt hc hi), fun _ e => ?_⟩) ?_
  · rcases hi with hi | rfl
    · have := hrep.heap.lt i hi; omega
    · omega
  · simp [z2d] at e
    have := hrep.heap.lt i ((hrep.heap.blk m c hm).block_lt hc hi)
    omega
  · refine .lp L n f ps asg body st .ready none a.tmps w.heap.size (.inr rfl) (by rw [hL1, hlo]) hrep.size fun t p hp => ?_
    have hlook : look tm t = some p := by
     have : ∀ {l : List (Nat × PV)}, Sub l tm → (t, p) ∈ l → look tm t = some p := by
      intro l
      induction l with
      | nil => intro _ h; simp at h
      | cons x r ih =>
       obtain ⟨u, q⟩ := x
       intro hs h
       rw [List.mem_cons] at h
       rcases h with e | h
       · simp at e; rw [e.1, e.2]; exact hs.1
       · exact ih hs.2 h
     exact this hsub hp
    exact ((hrep.tm t p hlook).mono hE1).reβ (0, ls) (z2t β ls _) (z6g hfr'.2 hlook)
 obtain ⟨β1, hβ1⟩ : ∃ β1, z69 β ls (.pointer (some ⟨L, 0, none⟩)) = β1 := ⟨_, rfl⟩
 rw [hβ1] at hrep1
 have hβ1L : β1 (0, ls) = .pointer (some ⟨L, 0, none⟩) := by rw [← hβ1, z2c]
 have ho1 : z5s β1 = z5s β := by rw [← hβ1]; exact z3r _ _ _
 -- the call
 have hgr := hrep1.ev (x := g) hgv
 generalize hvv : a.eval g = vv at hgr
 cases hgr with
 | fn _ _ _ fv cv hl hl' hd hd' =>
  have hfv : fv = [] := by simpa using hl.symm
  subst hfv
  obtain ⟨fn, hfn, hname, hbody⟩ := hsp.plain
  have hbc : ∃ c, fn.body = some c := by cases hc : fn.body with | none => rw [hc] at hbody; cases hbody | some c => exact ⟨c, rfl⟩
  obtain ⟨c, hbc⟩ := hbc
  have hname' : ¬ (fn.name = "runtime.NumGoroutine") := by simpa using hname
  have hargs : z7f β1 w1 own1 (.yl (0, ls) :: cap) (.func (.yield L) #[] #[] :: cv) := by
   refine ⟨by simp [hl'], fun j p v hp hv => ?_⟩
   cases j with
   | zero => simp at hp hv; subst hp; subst hv; exact .yl _ L hβ1L
   | succ j => exact hd' j p v (by simpa using hp) (by simpa using hv)
  let b2 : Frame := { b with defers := mark w.heap.size :: b.defers }
  have hstep : step P (lone (am b a (.code (.rangeFunc g ps asg body) :: k)) cs w) = .next (lone (Frame.enter P gf (.func (.yield L) #[] #[] :: cv).toArray .normal) (am b2 a (.inRangeFunc L :: k) :: cs) w1) := by
   have he : (Instr.enterLoop b.fn ({ a with defers := b.defers } : Act).tmps ps asg body b.roundOf).run P w = .ok (L, [mark w.heap.size]) w1 := by
    rw [hb0]
    have := run_enterLoop_outer (P := P) (w := w) b.fn a.tmps ps asg body
    rw [hb, hw0] at this
    rw [hb, this, ← hw1, hlo, hL]; rfl
   have hev : ({ a with defers := b.defers } : Act).eval g = .func (.func gf) #[] cv.toArray := by rw [zgl]; simpa using hvv
   exact stepR_rangeFunc (P := P) (b := b) (a := { a with defers := b.defers }) (k := k) (cs := cs) (d := { target := .fn (.func gf) cv.toArray, args := #[.func (.yield L) #[] #[]] }) (w₁' := w1) (w₂ := w1) he
    (by simp only [resolve, hev]; simp [Deferred.ofValue, Act.eval]) (by simp [invoke, callFunc, hfn, hname', hbc])
  obtain ⟨e, w2, fr, ⟨v, r, H, own2, β2, rfl, hR, hrv, hheap, hext, hβ2⟩, hcomes, hfrf, hleave⟩ := hsp.run β1 own1 w1 _ hrep1.heap hargs (am b2 a (.inRangeFunc L :: k) :: cs)
  obtain ⟨state, jump, st', hp', up', rfl, hbusy, hrun⟩ := hk r H hR
  have hne : ∀ x, x ≠ (0, ms) → β2 x = β1 x := fun x hx => hβ2 x fun h => hx (hv x h)
  have hlsms : ((0, ls) : Nm) ≠ (0, ms) := by
   intro e; simp at e; simp at hms; exact hms e.symm
  have hβ2L : β2 (0, ls) = .pointer (some ⟨L, 0, none⟩) := (hne _ hlsms).trans hβ1L
  have hblk : (push ((ls, .lp n f ps asg body st' state jump) :: hp') up') (0, ls).1 (0, ls).2 = some (.lp n f ps asg body st' state jump) := by simp [push, look]
  obtain ⟨L', tmps', df', hβ', ho', hg', _, _⟩ := zdq hheap hblk
  obtain rfl : L = L' := by rw [hβ2L] at hβ'; simpa using hβ'
  have hrunE := run_endLoop (P := P) hg' hbusy
  obtain ⟨hE2, hR2⟩ := zoq (state' := .exhausted) (pend' := jump) hheap hblk hβ' ho' hg'
  obtain ⟨w3, hw3⟩ : ∃ w3, w2.putObj L (.loop { state := .exhausted, pending := jump, fn := f, tmps := tmps', params := ps, assign := asg, body := body, defers := df' }) = w3 := ⟨_, rfl⟩
  rw [hw3] at hE2 hR2
  have hrunE' : (Instr.endLoop L).run P w2 = .ok jump w3 := by rw [hrunE, ← hw3]
  -- the state behind the loop
  have hrep3 : Rep ⟨n, z6c (0, ms) tm, (ls, .gone) :: hp', up'⟩ β2 own2 a w3 := by
   refine ⟨hrep1.size, hrep1.defers, fun t p hp => ?_, ?_⟩
   · simp only at hp
     rw [z5l] at hp
     cases hq : look tm t with
     | none => rw [hq] at hp; cases hp
     | some q => rw [hq] at hp; simp at hp; subst hp; exact ((hrep1.tm t q hq).mono (hext.trans hE2)).drop hne
   · have := hR2.drop (0, ls)
     refine ⟨fun m c hm => ?_, fun m1 m2 c1 c2 h1 h2 l1 l2 hn' => ?_, this.lt⟩
     · rw [z2f] at hm
       by_cases e : m = (0, ls)
       · rw [if_pos e] at hm; simp at hm; subst hm; exact .gone _
       · rw [if_neg e] at hm
         refine this.blk m c ?_
         rw [z30, if_neg e, z30, if_neg e, z2f, if_neg e]; exact hm
     · have key : ∀ m c, z1f (push ((ls, .gone) :: hp') up') m = some c → c.live = true → z1f (upd (upd (push ((ls, .lp n f ps asg body st' state jump) :: hp') up') (0, ls) (.lp n f ps asg body st' .exhausted jump)) (0, ls) .gone) m = some c := by
        intro m c hm hc
        rw [z2f] at hm
        by_cases e : m = (0, ls)
        · rw [if_pos e] at hm; simp at hm; subst hm; cases hc
        · rw [if_neg e] at hm
          rw [z30, if_neg e, z30, if_neg e, z2f, if_neg e]; exact hm
       exact this.inj m1 m2 c1 c2 (key m1 c1 h1 l1) (key m2 c2 h2 l2) l1 l2 hn'
  have hob : z5s β2 = z5s β := by
   rw [← ho1]; funext x; exact hne _ (by simp)
  have hn2 : z8y R (z5s β2) b2 := by rw [z8y, hrnd]; exact hb0
  have hD2 : w.heap.size < w1.heap.size ∧ ¬ own1 w.heap.size := ⟨by omega, fun h => by
   rcases h with h | h
   · have := hrep.heap.lt _ h; omega
   · omega⟩
  obtain ⟨w', fr', r', H', ownm, β', h1, h2, h3, h4, h5, h6, h7⟩ := hrun β2 own2 a w3 hrep3 b2 hb hbk hn2 cs
  rw [hob] at h6
  rw [hrnd] at h7
  obtain ⟨a1, ⟨Ds, a2, a3, a4⟩, a5⟩ := h7
  have hext3 := hext.trans hE2
  have hD3 : w3.heap[w.heap.size]? = some (.deferred (some [])) := by rw [hext3.block _ hD2.1 hD2.2]; exact hD1
  have hD4 : w'.heap[w.heap.size]? = some (.deferred (some [])) := by
   rw [h5.block _ (Nat.lt_of_lt_of_le hD2.1 hext3.size) (hext3.owns _ hD2.1 hD2.2)]; exact hD3
  have hsteps : Steps P (lone (am b a (.code (.rangeFunc g ps asg body) :: k)) cs w) (lone (am b2 a ((jump.map Item.code).toList ++ k)) cs w3) := by
   refine .head hstep (Steps.trans hcomes (.head (step_leave_returned hleave) (.one ?_)))
   rw [am, finish_atR_inRangeFunc]
   exact stepR_endRangeFunc hrunE'
  refine ⟨w', fr', r', H', ownm, β', Steps.trans hsteps h1, h2, h3, h4, (hE1.trans hext3).trans h5, h6, ?_⟩
  rw [hrnd]
  refine ⟨a1, ⟨Ds ++ [w.heap.size], by rw [a2]; simp [b2], ?_, fun D hD => ?_⟩, a5⟩
  · rw [List.nodup_append]
    refine ⟨a3, by simp, fun x hx y hy => ?_⟩
    simp at hy; subst hy
    have := (a4 x hx).1
    have h3s : w1.heap.size ≤ w3.heap.size := hext3.size
    omega
  · rw [List.mem_append, List.mem_singleton] at hD
    rcases hD with hD | rfl
    · exact ⟨by have := (a4 D hD).1; have h3s : w1.heap.size ≤ w3.heap.size := hext3.size; omega, (a4 D hD).2⟩
    · exact ⟨Nat.le_refl _, hD4⟩
end Go.Ab
namespace Go.Ab
variable {P : Program} {f : FuncId} {R : z3s} {k : List Item} {all : Array Oper} {o : Oper} {l : List Oper}
variable {n : Nat} {tm : List (Nat × PV)} {hp : Hp} {up : Hf} {d : Nat} {ty : TypeId} {pos : String} {aft : Array Edge} {gd : Option (Nat × Bool)} {op : Op} {p : PV}
theorem zf9 {m : Nm} : ∀ {tm : List (Nat × PV)}, z4x m tm = false → z6c m tm = tm
 | [], _ => rfl
 | (t, p) :: r, h => by
  simp only [z4x, Bool.or_eq_false_iff] at h
  rw [z6c, h.1, zf9 h.2]; rfl
theorem bkN {e t : Nat} {b : Blk} (h : up e t = some b) : BkE ⟨n, tm, hp, up⟩ [((e + 1, t), b)] := by
 simp only [BkE, List.map_cons, List.map_nil, List.cons.injEq, and_true]; exact h
/-- a call of yield, what is said of memory before and behind it being given whole -/
theorem zeb {fo : Operand} {args : List Operand} {m mv : Nm} {ps : List PV} {ats : Array TypeId} {up' : Hf} (hsp : zea P m ps (push hp up) (fun r H' => r = .v p ∧ H' = push hp up') (fun x => x = (mv.1 + 1, mv.2))) (hfo : St.ev ⟨n, tm, hp, up⟩ fo = some (.yl m)) (hev : St.evs ⟨n, tm, hp, up⟩ args = some ps)
  (hq : z4x (mv.1 + 1, mv.2) tm = false) (hv : R.vol mv) (hd : d < n) (h : Ops P f R all l k ⟨n, (d, p) :: tm, hp, up'⟩) :
  Op1 P f R all ⟨some d, .call ⟨.value fo, args.toArray, ats⟩, ty, pos, aft, gd⟩ l k ⟨n, tm, hp, up⟩ := by
 refine zpu hsp hfo hev (fun x e => ?_) hd (fun r H hr => ?_)
 · have e1 := congrArg Prod.fst e
   have e2 := congrArg Prod.snd e
   have : x = mv := Prod.ext (by simp at e1; omega) e2.symm
   rw [this]; exact hv
 · obtain ⟨rfl, rfl⟩ := hr
   rw [zf9 hq]
   exact ⟨p, hp, up', rfl, rfl, h⟩
end Go.Ab
namespace Go.Ab
variable {P : Program} {f : FuncId} {R : z3s} {k : List Item} {all : Array Oper} {o : Oper} {l : List Oper}
variable {n : Nat} {tm : List (Nat × PV)} {hp : Hp} {up : Hf} {d : Nat} {ty : TypeId} {pos : String} {aft : Array Edge} {gd : Option (Nat × Bool)} {op : Op} {p : PV}
def PV.give1 (y : Nat) (m : Nm) : PV → PV
 | .ptr q off => if q == (0, y) then .ptr m off else .ptr q off
 | p => p
def PV.giveF (y : Nat) (m : Nm) : PV → PV
 | .fn g first cap => .fn g (first.map (PV.give1 y m)) (cap.map (PV.give1 y m))
 | p => p.give1 y m
def zff (y : Nat) (m : Nm) : List (Nat × PV) → List (Nat × PV)
 | [] => []
 | (t, p) :: r => (t, if p.says m then .any else p.giveF y m) :: zff y m r
theorem zbc {m : Nm} {y : Nat} : ∀ {tm : List (Nat × PV)} {t : Nat}, look (zff y m tm) t = (look tm t).map fun p => if p.says m then .any else p.giveF y m
 | [], t => rfl
 | (k, p) :: r, t => by
  simp only [zff, look]
  split
  · rfl
  · exact zbc
theorem PR.give1 {β : Nm → Value} {w : World} {own : Nat → Prop} {m : Nm} {y : Nat} (hm : β m = β (0, y)) {p : PV} {v : Value} (h : PR β w own p v) : PR β w own (p.give1 y m) v := by
 cases p with
 | ptr q off =>
  simp only [PV.give1]
  split
  · rename_i e; simp at e; subst e
    cases h with | ptr _ _ g hg => exact .ptr _ _ g (by rw [hm]; exact hg)
  · exact h
 | _ => exact h
theorem PR.giveF {β : Nm → Value} {w : World} {own : Nat → Prop} {m : Nm} {y : Nat} (hm : β m = β (0, y)) {p : PV} {v : Value} (h : PR β w own p v) : PR β w own (p.giveF y m) v := by
 cases p with
 | fn g first cap =>
  cases h with
  | fn _ _ _ fv cv h1 h2 h3 h4 =>
   refine .fn g _ _ fv cv (by simpa using h1) (by simpa using h2) (fun j x u hx hu => ?_) (fun j x u hx hu => ?_)
   · rw [List.getElem?_map] at hx
     cases hj : first[j]? with
     | none => rw [hj] at hx; simp at hx
     | some z => rw [hj] at hx; simp at hx; subst hx; exact (h3 j z u hj hu).give1 hm
   · rw [List.getElem?_map] at hx
     cases hj : cap[j]? with
     | none => rw [hj] at hx; simp at hx
     | some z => rw [hj] at hx; simp at hx; subst hx; exact (h4 j z u hj hu).give1 hm
 | _ => exact h.give1 hm
/-- an own variable handed to a caller under that caller's name for it, which is bound anew -/
theorem zpy (y md ms : Nat) {cs : List PV} {q : Blk} (hb : look hp y = some (.box cs)) (hq0 : q.lift (md + 1) = .box cs) (hg : up md ms = some .gone) (hvol : R.vol (md, ms)) (hq : z3j (md + 1, ms) hp = true) (hup : z7x up (md, ms))
  (h : Run P f R k ⟨n, zff y (md + 1, ms) tm, (y, .gone) :: hp, upd up (md, ms) q⟩) : Run P f R k ⟨n, tm, hp, up⟩ := by
 refine Run.stepV (s := ⟨n, tm, hp, up⟩) (s' := ⟨n, zff y (md + 1, ms) tm, (y, .gone) :: hp, upd up (md, ms) q⟩) (fun β own a w hr b' fs => ?_) h
 let β' : Nm → Value := fun m => if m = (md + 1, ms) then β (0, y) else β m
 have hne : ∀ m, m ≠ (md + 1, ms) → β' m = β m := fun m hm => by simp [β', hm]
 have hsame : β' (md + 1, ms) = β' (0, y) := by simp [β']
 have hy : β' (0, y) = β (0, y) := hne _ (by simp)
 have hold : ∀ m c, z1f (push hp up) m = some c → c.says (md + 1, ms) = false := fun m c hc => zbl (zci (m := (md, ms)) hq hup) hc
 have hgone : z1f (push hp up) (md + 1, ms) = some .gone := by simp [z1f, push, hg, Blk.lift]
 have h1 : HR (push hp up) β' own w := by
  refine ⟨fun m c hc => ?_, fun m1 m2 c1 c2 e1 e2 l1 l2 hn => ?_, hr.heap.lt⟩
  · by_cases hm : m = (md + 1, ms)
    · subst hm
      rw [hgone] at hc; simp at hc; subst hc; exact .gone _
    · rw [hne m hm]; exact (hr.heap.blk m c hc).reβ (md + 1, ms) hne (hold m c hc)
  · have hg1 : ∀ m c, z1f (push hp up) m = some c → c.live = true → m ≠ (md + 1, ms) := by
     rintro m c hc hl rfl
     rw [hgone] at hc; simp at hc; subst hc; cases hl
    rw [hne m1 (hg1 m1 c1 e1 l1), hne m2 (hg1 m2 c2 e2 l2)]
    exact hr.heap.inj m1 m2 c1 c2 e1 e2 l1 l2 hn
 refine ⟨β', own, a, w, ⟨hr.size, hr.defers, fun t p hp' => ?_, ?_⟩, Ext.refl _ _, fun m hm => ?_, .refl _ _⟩
 · simp only at hp'
   rw [zbc] at hp'
   cases hq' : look tm t with
   | none => rw [hq'] at hp'; cases hp'
   | some q1 =>
    rw [hq'] at hp'; simp at hp'; subst hp'
    split
    · exact .any _
    · rename_i hs
      exact ((hr.tm t q1 hq').reβ (md + 1, ms) hne (by simpa using hs)).giveF hsame
 · have hrow : z1f (push hp up) (0, y) = some (.box cs) := hb
   have key : ∀ m c, z1f (push ((y, .gone) :: hp) (upd up (md, ms) q)) m = some c → c.live = true → (m = (md + 1, ms) ∧ c = .box cs) ∨ (m ≠ (md + 1, ms) ∧ m ≠ (0, y) ∧ z1f (push hp up) m = some c) := by
    intro m c hm hc
    rw [z2f] at hm
    by_cases e1 : m = (0, y)
    · rw [if_pos e1] at hm; simp at hm; subst hm; cases hc
    · rw [if_neg e1, z5i, z30] at hm
      by_cases e2 : m = (md + 1, ms)
      · rw [if_pos e2] at hm; simp [atF] at hm; rw [hq0] at hm; exact .inl ⟨e2, hm.symm⟩
      · rw [if_neg e2] at hm; exact .inr ⟨e2, e1, hm⟩
   refine ⟨fun m c hm => ?_, fun m1 m2 c1 c2 e1 e2 l1 l2 hn g hg' => ?_, h1.lt⟩
   · cases hc : c.live with
     | false => cases c <;> first | (simp [Blk.live] at hc; done) | exact .gone _
     | true =>
      rcases key m c hm hc with ⟨rfl, rfl⟩ | ⟨_, _, h3⟩
      · rw [hsame]; exact h1.blk _ _ hrow
      · exact h1.blk m c h3
   · rcases key m1 c1 e1 l1 with ⟨rfl, rfl⟩ | ⟨n1, n1', h3⟩
     · rcases key m2 c2 e2 l2 with ⟨rfl, rfl⟩ | ⟨n2, n2', h4⟩
       · exact absurd rfl hn
       · rw [hsame] at hg'
         exact h1.inj (0, y) m2 _ c2 hrow h4 l1 l2 (Ne.symm n2') g hg'
     · rcases key m2 c2 e2 l2 with ⟨rfl, rfl⟩ | ⟨n2, n2', h4⟩
       · rw [hsame]
         exact h1.inj m1 (0, y) c1 _ h3 hrow l1 l2 n1' g hg'
       · exact h1.inj m1 m2 c1 c2 h3 h4 l1 l2 hn g hg'
 · refine hne _ fun e => hm ?_
   have e1 : m.1 + 1 = md + 1 := (Prod.mk.inj e).1
   have e2 : m.2 = ms := (Prod.mk.inj e).2
   have : m = (md, ms) := Prod.ext (by omega) e2
   subst this
   exact hvol
/-- a function value as the result -/
theorem ztz {fn : Func} {s : St} {t : Nat} (q : PV) (h : fn.results = #[.tmp t]) (ht : look s.tm t = some (q.lift 1)) : Res P fn s (.v q) := fun β own a w hrep =>
 ⟨a.tmps.getD t undef, own, by simp [results, h], Ext.refl _ _, hrep.heap.outer, .v _ _ ((hrep.tm t _ ht).low q rfl)⟩
/-- a name of one's own that holds nothing yet -/
theorem zdd (y : Nat) (h : Run P f R k ⟨n, tm, (y, .gone) :: hp, up⟩) : Run P f R k ⟨n, tm, hp, up⟩ := by
 refine Run.le (s := ⟨n, tm, (y, .gone) :: hp, up⟩) (fun β own ac w hr => ⟨β, rfl, hr.size, hr.defers, hr.tm, ?_⟩) h
 have := hr.heap.drop (0, y)
 refine ⟨fun m c hm => ?_, fun m1 m2 c1 c2 h1 h2 l1 l2 hn' => ?_, this.lt⟩
 · rw [z2f] at hm
   by_cases e : m = (0, y)
   · rw [if_pos e] at hm; simp at hm; subst hm; exact .gone _
   · rw [if_neg e] at hm; exact hr.heap.blk m c hm
 · have key : ∀ m c, z1f (push ((y, .gone) :: hp) up) m = some c → c.live = true → z1f (push hp up) m = some c := by
    intro m c hm hc
    rw [z2f] at hm
    by_cases e : m = (0, y)
    · rw [if_pos e] at hm; simp at hm; subst hm; cases hc
    · rw [if_neg e] at hm; exact hm
   exact hr.heap.inj m1 m2 c1 c2 (key m1 c1 h1 l1) (key m2 c2 h2 l2) l1 l2 hn'
theorem z9n {m : Nm} : ∀ {tm : List (Nat × PV)} {t : Nat} {q : PV}, z4x m tm = false → look tm t = some q → q.says m = false
 | [], t, q, _, h => by simp [look] at h
 | (k, p) :: r, t, q, hs, h => by
  simp only [z4x, Bool.or_eq_false_iff] at hs
  simp only [look] at h
  split at h
  · simp at h; subst h; exact hs.1
  · exact z9n hs.2 h
/-- a call of a function that binds two own names anew, what is said of memory before and behind it being given whole -/
theorem zgk {g : FuncId} {args : List Operand} {ps : List PV} {ats : Array TypeId} {a b : Nat} {hp' : Hp} {up' : Hf} (hsp : z99 P g ps (push hp up) ⟨fun r H' => r = .v p ∧ H' = push hp' up', fun x => x = (0, a) ∨ x = (0, b), none⟩) (hev : St.evs ⟨n, tm, hp, up⟩ args = some ps)
  (hqa : z4x (0, a) tm = false) (hqb : z4x (0, b) tm = false) (hd : d < n) (h : Ops P f R all l k ⟨n, (d, p) :: tm, hp', up'⟩) :
  Op1 P f R all ⟨some d, .call ⟨.value (.func g), args.toArray, ats⟩, ty, pos, aft, gd⟩ l k ⟨n, tm, hp, up⟩ := by
 refine zh7 (g := g) fun β own ac w hr => ?_
 obtain ⟨vals, hrun, hargs⟩ := z7q (first := []) (cap := []) hr (fo := .func g) rfl hev hsp.plain (dst := some d) (ats := ats) (ty := ty) (pos := pos) (aft := aft) (gd := gd)
 refine ⟨vals.toArray, w, own, hrun, Ext.refl _ _, (hsp.run β own w vals hr.heap (by simpa using hargs)).mono fun e w' hfin => ?_⟩
 obtain ⟨v, r, H, own', β', he, ⟨hr1, hH⟩, hrv, hheap, hext, hβ⟩ := hfin
 subst hr1
 cases hrv with
 | v _ _ hpv =>
  refine ⟨v, β', own', _, he, ?_, hext, fun x hx => hβ _ (fun e => ?_), h⟩
  · have hr' : Rep ⟨n, tm, hp', up'⟩ β' own' ac w' := by
     refine ⟨hr.size, hr.defers, fun t q hq' => ?_, by rw [← hH]; exact hheap⟩
     simp only at hq'
     let β1 : Nm → Value := fun x => if x = (0, a) then β' (0, a) else β x
     have h1 := ((hr.tm t q hq').mono hext).reβ (β' := β1) (0, a) (fun m hm => by simp [β1, hm]) (z9n hqa hq')
     refine h1.reβ (β' := β') (0, b) (fun m hm => ?_) (z9n hqb hq')
     by_cases e : m = (0, a)
     · subst e; simp [β1]
     · simp only [β1, e, if_false]
       exact hβ m fun hv => hv.elim e hm
    exact hr'.put (dst := some d) (p := p) (v := v) (by simp [St.fits, hd]) hpv
  · rcases e with e | e <;> simp at e
end Go.Ab
namespace Go.Ab
variable {P : Program} {f : FuncId} {R : z3s} {k : List Item} {all : Array Oper} {o : Oper} {l : List Oper}
variable {n : Nat} {tm : List (Nat × PV)} {hp : Hp} {up : Hf} {d : Nat} {ty : TypeId} {pos : String} {aft : Array Edge} {gd : Option (Nat × Bool)} {op : Op} {p : PV}
theorem zr8 {g : FuncId} {fo : Operand} {args : List Operand} (first cap ps : List PV) {ats : Array TypeId} (hsp : Spec P g (first ++ ps ++ cap) (push hp up) (fun r H' => r = .v p ∧ H' = push hp up)) (hfo : St.ev ⟨n, tm, hp, up⟩ fo = some (.fn (.func g) first cap)) (hev : St.evs ⟨n, tm, hp, up⟩ args = some ps)
  (hd : d < n) (h : Ops P f R all l k ⟨n, (d, p) :: tm, hp, up⟩) :
  Op1 P f R all ⟨some d, .call ⟨.value fo, args.toArray, ats⟩, ty, pos, aft, gd⟩ l k ⟨n, tm, hp, up⟩ := by
 refine zh7 (g := g) fun β own ac w hr => ?_
 obtain ⟨vals, hrun, hargs⟩ := z7q hr hfo hev hsp.plain (dst := some d) (ats := ats) (ty := ty) (pos := pos) (aft := aft) (gd := gd)
 refine ⟨vals.toArray, w, own, hrun, Ext.refl _ _, (hsp.run β own w vals hr.heap hargs).mono fun e w' hfin => ?_⟩
 obtain ⟨v, r, H, own', he, ⟨hr1, hH⟩, hrv, hheap, hext⟩ := hfin
 subst hr1
 cases hrv with
 | v _ _ hpv =>
  refine ⟨v, β, own', _, he, ?_, hext, fun x hx => rfl, h⟩
  have hr' : Rep ⟨n, tm, hp, up⟩ β own' ac w' := ⟨hr.size, hr.defers, fun t q hq' => (hr.tm t q hq').mono hext, by rw [← hH]; exact hheap⟩
  exact hr'.put (dst := some d) (p := p) (v := v) (by simp [St.fits, hd]) hpv
theorem zaq {H : Hf} {a b : Nm} {p q : Blk} (h : a ≠ b) : upd (upd H a p) b q = upd (upd H b q) a p := by
 funext d s
 simp only [upd]
 by_cases h1 : d = b.1 ∧ s = b.2
 · rw [if_pos h1, if_pos h1, if_neg (fun h2 => h (Prod.ext (h2.1.symm.trans h1.1) (h2.2.symm.trans h1.2)))]
 · rw [if_neg h1, if_neg h1]
end Go.Ab
namespace Go.Ab
variable {P : Program} {ty tx ty' : TypeId} {x y z : Operand}
theorem z1d.ptr {t : TypeId} {ti : TI} (h : z1d P t ti) {e : TypeId} (hk : ti.kind = .ptr e) : P.underlying t = some (.pointer (P.pointee t)) := by
 have h0 : P.underlying t = some (.pointer e) := by
  obtain ⟨i, u, z, hi, hu, hz, hs, hb, hk', _⟩ := h.get
  rw [hk] at hk'
  cases u <;> simp [TK.ofD] at hk' <;> simp_all
 have : P.pointee t = e := by simp [Program.pointee, h0]
 rw [this]; exact h0
end Go.Ab
namespace Go.Ab
variable {P : Program} {f : FuncId} {R : z3s} {k : List Item} {all : Array Oper} {o : Oper} {l : List Oper}
variable {n : Nat} {tm : List (Nat × PV)} {hp : Hp} {up : Hf} {d : Nat}
section
variable {ty : TypeId} {pos : String} {aft : Array Edge} {gd : Option (Nat × Bool)} {p : PV} {g : FuncId} {args : List Operand} {ps : List PV} {ats : Array TypeId} {bs : List (Nm × Blk)}
/-- a call that only reads blocks -/
theorem z15 (hsp : z36 P g ps bs [] p) (hev : St.evs ⟨n, tm, hp, up⟩ args = some ps) (hbs : BkE ⟨n, tm, hp, up⟩ bs) (hd : d < n) (h : Ops P f R all l k ⟨n, (d, p) :: tm, hp, up⟩) :
  Op1 P f R all ⟨some d, .call ⟨.value (.func g), args.toArray, ats⟩, ty, pos, aft, gd⟩ l k ⟨n, tm, hp, up⟩ := zgd hsp hev hbs hd rfl h
theorem zl2 {id : Nat} {ops : List Oper} {s0 : St} {done : List Eff} {gr : List (Nat × PV)} (hsp : z36 P g ps bs [] p) (hg : GOK ops.toArray gd gr ⟨n, tm, hp, up⟩)
  (hev : St.evs ⟨n, tm, hp, up⟩ args = some ps) (hbs : BkE ⟨n, tm, hp, up⟩ bs) (hd : d < n)
  (h : Tr P f R id ops k s0 (done ++ [⟨gr ++ rd (args.zip ps), bs, [], [(d, p)], []⟩]) ⟨n, (d, p) :: tm, hp, up⟩ l) :
  Tr P f R id ops k s0 done ⟨n, tm, hp, up⟩ (⟨some d, .call ⟨.value (.func g), args.toArray, ats⟩, ty, pos, aft, gd⟩ :: l) := zik hsp hg hev hbs hd rfl h
end
end Go.Ab
namespace Go.Ab
variable {P : Program} {f : FuncId} {R : z3s} {k : List Item} {all : Array Oper} {o : Oper} {l : List Oper}
variable {n : Nat} {tm : List (Nat × PV)} {hp : Hp} {up : Hf} {d : Nat} {ty : TypeId} {pos : String} {aft : Array Edge} {gd : Option (Nat × Bool)} {op : Op} {p : PV}
theorem zj0 {s : St} {t e : TypeId} {ti te : TI} (ht : z1d P t ti) (he : z1d P e te) (hk : ti.kind = .slice e) {x y : Operand} {k1 k2 : IntKind} {a c : Int} (hx : s.ev x = some (I k1 a)) (hy : s.ev y = some (I k2 c)) (h0 : 0 ≤ a) (hac : a ≤ c) (ha : c ≤ 137438953472) (hb : te.bytes ≤ 1024) (hz : te.zero.all (·.oneCell') = true)
  (hz1 : te.zero.length = te.size) (hz2 : te.size ≠ 0) (hf : (z1r d s.hp && z1t d s.tm) = true) (hd : d < s.n) :
  z2r P ⟨some d, .makeSlice t x y, ty, pos, aft, gd⟩ s (s.app ⟨[], [], [], [(d, .ref (0, d))], [((0, d), .row e te.size (List.replicate a.toNat (te.zero.map zgp)))]⟩) := by
 obtain ⟨n, tm, hp, up⟩ := s
 intro β own ac w hr
 obtain ⟨i, u, z, hi, hu, hiz, his, hib, hku, hzc, _⟩ := he.get
 have hsm := z8r (b := te.bytes) (c := c.toNat) hb (by omega)
 have hby : (i.bytes : Int) * c ≤ 281474976710656 := by
  have h1 : (te.bytes : Int) * c = ((c.toNat * te.bytes : Nat) : Int) := by rw [Int.natCast_mul, Int.toNat_of_nonneg (by omega), Int.mul_comm]
  rw [hib, h1]; omega
 have hrun := run_make (P := P) w t e i z (ht.slice hk) hi hiz k1 k2 a c h0 hac hby (by omega)
 have hE := Ext.alloc w own (.cells (madeCells z.cells (c.toNat * i.size)) e)
 have hzsz : z.cells.size = te.size := by rw [← hz1, ← hzc]; simp
 have hget : ∀ i' j, i' < c.toNat → j < te.size → (madeCells z.cells (c.toNat * i.size)).toList[i' * te.size + j]? = te.zero[j]? := by
  intro i' j hi' hj
  have hlt : i' * te.size + j < c.toNat * te.size := by
   have : (i' + 1) * te.size ≤ c.toNat * te.size := Nat.mul_le_mul_right _ hi'
   rw [Nat.add_mul] at this; omega
  rw [his]
  simp only [madeCells, Array.getElem?_toList, Array.getElem?_map]
  rw [Array.getElem?_range]
  simp only [hlt, if_true, Option.map_some, hzsz]
  have hmod : (i' * te.size + j) % te.size = j := by rw [Nat.add_comm, Nat.add_mul_mod_self_right]; exact Nat.mod_eq_of_lt hj
  rw [hmod, ← hzc, Array.getElem?_toList, getElem!_pos z.cells j (by omega), Array.getElem?_eq_getElem (by omega)]
 have hlen : (madeCells z.cells (c.toNat * i.size)).toList.length = c.toNat * te.size := by simp [size_madeCells, his]
 have hle : a.toNat ≤ c.toNat := by omega
 have hmul : a.toNat * te.size ≤ c.toNat * te.size := Nat.mul_le_mul_right _ hle
 have hlent : ((madeCells z.cells (c.toNat * i.size)).toList.take (a.toNat * te.size)).length = a.toNat * te.size := by rw [List.length_take, hlen]; omega
 have hgett : ∀ i' j, i' < a.toNat → j < te.size → ((madeCells z.cells (c.toNat * i.size)).toList.take (a.toNat * te.size))[i' * te.size + j]? = te.zero[j]? := by
  intro i' j hi' hj
  have hlt : i' * te.size + j < a.toNat * te.size := by
   have : (i' + 1) * te.size ≤ a.toNat * te.size := Nat.mul_le_mul_right _ hi'
   rw [Nat.add_mul] at this; omega
  rw [List.getElem?_take, if_pos hlt]
  exact hget i' j (by omega) hj
 have hrow : z9e (w.alloc (.cells (madeCells z.cells (c.toNat * i.size)) e)) (fun g => own g ∨ g = w.heap.size) te.size (List.replicate a.toNat (te.zero.map zgp)) ((madeCells z.cells (c.toNat * i.size)).toList.take (a.toNat * te.size)) := by
  refine ⟨fun x hx => ?_, by rw [List.length_replicate]; exact hlent, fun v hv => ?_, fun i' x hx' j y hy' => ?_⟩
  · rw [List.mem_replicate] at hx; rw [hx.2]; simp [hz1]
  · obtain ⟨j, hj⟩ := List.getElem?_of_mem hv
    have hjl := (List.getElem?_eq_some_iff.1 hj).1
    rw [hlent] at hjl
    have h2 := hgett (j / te.size) (j % te.size) ((Nat.div_lt_iff_lt_mul (by omega)).2 hjl) (Nat.mod_lt _ (by omega))
    rw [Nat.div_add_mod' j te.size, hj] at h2
    rw [List.all_eq_true] at hz
    exact hz v (List.mem_of_getElem? h2.symm)
  · have hi'' := (List.getElem?_eq_some_iff.1 hx').1
    rw [List.length_replicate] at hi''
    rw [List.getElem?_replicate, if_pos hi''] at hx'
    simp at hx'; subst hx'
    rw [List.getElem?_map] at hy'
    cases hq : te.zero[j]? with
    | none => rw [hq] at hy'; cases hy'
    | some u =>
     rw [hq] at hy'; simp at hy'; subst hy'
     refine ⟨u, by rw [hgett i' j hi'' (by have := (List.getElem?_eq_some_iff.1 hq).1; omega)]; exact hq, ?_⟩
     rw [List.all_eq_true] at hz
     exact .zgp (hz u (List.mem_of_getElem? hq))
 have hin := hr.install (d := d) hf hE (fun g hg => by rcases hg with hg | rfl; exact Nat.lt_of_lt_of_le (hr.heap.lt g hg) (by simp); simp) (v := .slice (some ⟨w.heap.size, 0, none⟩) a.toNat c.toNat) (b := .row e te.size (List.replicate a.toNat (te.zero.map zgp)))
  (z9o hr.heap _ _ _ rfl)
  (.row _ e te.size _ _ (fun g hg => by simp [Value.ownBlock] at hg; exact .inr hg.symm) (by omega)
    ⟨by rw [List.length_replicate]; exact hlent, .inr ⟨w.heap.size, c.toNat, _, by rw [List.length_replicate], Nat.zero_le _, z8u w _, by rw [List.length_replicate]; exact hle, by unfold maxLen; omega, hlen, by rw [List.length_replicate]⟩⟩ hrow)
 refine ⟨_, .slice (some ⟨w.heap.size, 0, none⟩) a.toNat c.toNat, _, z69 β d (.slice (some ⟨w.heap.size, 0, none⟩) a.toNat c.toNat), _, ?_, .inl rfl, ?_, hE, z3r _ _ _⟩
 · simp only [execOp, (hr.ev hx).lit, (hr.ev hy).lit]
   simp [hrun]
 · have hp' := PR.ref (β := z69 β d (.slice (some ⟨w.heap.size, 0, none⟩) a.toNat c.toNat)) (w := w.alloc (.cells (madeCells z.cells (c.toNat * i.size)) e)) (own := fun g => own g ∨ g = w.heap.size) (0, d)
   rw [z2c] at hp'
   exact hin.put (dst := some d) (p := .ref (0, d)) (by simpa [St.fits] using hd) hp'
section
variable {t e : TypeId} {ti te : TI} {x y : Operand} {k1 k2 : IntKind} {a c : Int} {xs : List (List D)}
theorem zr7 [ht : z1d P t ti] [he : z1d P e te] (hk : ti.kind = .slice e) (hev : St.evs ⟨n, tm, hp, up⟩ [x, y] = some [I k1 a, I k2 c]) (h0 : 0 ≤ a) (hac : a ≤ c) (ha : c ≤ 137438953472) (hb : decide (te.bytes ≤ 1024) = true) (hz : zob te 0 = true) (hfr : (z1r d hp && z1t d tm) = true) (hd : d < n)
  (hxs : List.replicate a.toNat (te.zero.map zgp) = xs) (h : Ops P f R all l k ⟨n, (d, .ref (0, d)) :: tm, (d, .row e te.size xs) :: hp, up⟩) : Op1 P f R all ⟨some d, .makeSlice t x y, ty, pos, aft, gd⟩ l k ⟨n, tm, hp, up⟩ := by
 obtain ⟨h1, h2, _⟩ := evE (xs := [(x, I k1 a), (y, I k2 c)]) hev
 simp only [zob, Bool.and_eq_true, beq_iff_eq, bne_iff_ne] at hz
 subst hxs
 exact z0j (zj0 (P := P) (d := d) ht he hk (s := ⟨n, tm, hp, up⟩) h1 h2 h0 hac ha (by simpa using hb) hz.1.1.1 hz.1.1.2 hz.1.2 hfr hd) h
end
end Go.Ab
namespace Go.Ab
theorem z05 (H : Hf) (m : Nm) (b : Blk) : upd H m b m.1 m.2 = some b := by simp [upd]
theorem z0x (H : Hf) (m : Nm) (b c : Blk) : upd (upd H m b) m c = upd H m c := by
 funext d s; simp only [upd]; split <;> rfl
theorem zer (H : Hf) (m q : Nm) (b : Blk) (h : q ≠ m) : upd H m b q.1 q.2 = H q.1 q.2 := by
 simp only [upd]
 rw [if_neg]
 rintro ⟨h1, h2⟩
 exact h (Prod.ext h1 h2)
end Go.Ab
namespace Go.Ab
open Go.RowKit
variable {P : Program} {f : FuncId} {R : z3s} {k : List Item} {all : Array Oper} {o : Oper} {l : List Oper}
variable {n : Nat} {tm : List (Nat × PV)} {hp : Hp} {up : Hf} {d : Nat} {ty : TypeId} {pos : String} {aft : Array Edge} {gd : Option (Nat × Bool)} {op : Op} {p : PV}
theorem Ext.of_below {w w' : World} {own : Nat → Prop} (h : Below w.heap.size w w') : Ext w own w' own := ⟨h.os, h.tape, h.output, h.size, fun b hb _ => h.block b hb, fun _ _ h => h⟩
theorem HR.of_below {H : Hf} {β : Nm → Value} {own : Nat → Prop} {w w' : World} (h : HR H β own w) (hb : Below w.heap.size w w') : HR H β own w' := by
 refine ⟨fun q b hq => ?_, h.inj, fun g hg => Nat.lt_of_lt_of_le (h.lt g hg) hb.size⟩
 have hk := h.blk q b hq
 cases hl : b.live with
 | false => cases b <;> first | (simp [Blk.live] at hl; done) | exact .gone _
 | true => exact hk.kept (Ext.of_below hb) fun lb g hg => ⟨hb.block g (h.lt g (hk.block_lt lb hg)), hk.block_lt lb hg⟩
/-- a function of the library that reads what some blocks hold and leaves memory as it was -/
theorem zb8 {g : FuncId} {ps : List PV} {bs : List (Nm × Blk)} {p : PV} (hp : Plain P g)
  (h : ∀ (H : Hf), (∀ q ∈ bs, H q.1.1 q.1.2 = some q.2) → ∀ β own w vals, HR H β own w → z7f β w own ps vals → ∃ v, Calls P g vals.toArray w (fun e w' => e = .returned v ∧ Below w.heap.size w w') ∧ ∀ w' own', PR β w' own' p v) : z36 P g ps bs [] p :=
 zd4 hp fun H hH β own w vals hHR hA => by
  obtain ⟨v, hc, hv⟩ := h H hH β own w vals hHR hA
  refine hc.mono ?_
  rintro e w' ⟨rfl, hb⟩
  exact ⟨v, _, H, own, rfl, ⟨rfl, rfl⟩, .v _ _ (hv w' own), hHR.of_below hb, Ext.of_below hb⟩
theorem z0s {m : Nm} {b : Blk} {bs : List (Nm × Blk)} {s : St} (h : z5c s m = some b) (h' : BkE s bs) : BkE s ((m, b) :: bs) := by
 simp only [BkE, List.map_cons, List.cons.injEq] at *
 exact ⟨h, h'⟩
theorem zpb {s : St} : BkE s [] := rfl
section
variable {g : FuncId} {args : List Operand} {ps : List PV} {ats : Array TypeId} {md ms : Nat} {b b' : Blk} {bs : List (Nm × Blk)}
theorem z1l (hsp : z36 P g ps (((md + 1, ms), b) :: bs) [((md + 1, ms), b')] p) (hev : St.evs ⟨n, tm, hp, up⟩ args = some ps) (hb : up md ms = some b) (hbs : BkE ⟨n, tm, hp, up⟩ bs) (hd : d < n)
  (h : Ops P f R all l k ⟨n, (d, p) :: tm, hp, upd up (md, ms) b'⟩) : Op1 P f R all ⟨some d, .call ⟨.value (.func g), args.toArray, ats⟩, ty, pos, aft, gd⟩ l k ⟨n, tm, hp, up⟩ :=
 zgd hsp hev (z0s (m := (md + 1, ms)) hb hbs) hd rfl h
theorem zle {id : Nat} {ops : List Oper} {s0 : St} {done : List Eff} {gr : List (Nat × PV)} (hsp : z36 P g ps (((md + 1, ms), b) :: bs) [((md + 1, ms), b')] p) (hg : GOK ops.toArray gd gr ⟨n, tm, hp, up⟩) (hev : St.evs ⟨n, tm, hp, up⟩ args = some ps) (hb : up md ms = some b) (hbs : BkE ⟨n, tm, hp, up⟩ bs) (hd : d < n)
  (h : Tr P f R id ops k s0 (done ++ [⟨gr ++ rd (args.zip ps), ((md + 1, ms), b) :: bs, [], [(d, p)], [((md + 1, ms), b')]⟩]) ⟨n, (d, p) :: tm, hp, upd up (md, ms) b'⟩ l) :
  Tr P f R id ops k s0 done ⟨n, tm, hp, up⟩ (⟨some d, .call ⟨.value (.func g), args.toArray, ats⟩, ty, pos, aft, gd⟩ :: l) :=
 zik hsp hg hev (z0s (m := (md + 1, ms)) hb hbs) hd rfl h
end
end Go.Ab
namespace Go.Ab
variable {P : Program}
theorem z4v {src dst : TypeId} {ty : TypeId} {x : Operand} {k : IntKind} {b : Int} {t1 t2 : TI} [h1 : z1d P src t1] [h2 : z1d P dst t2] (hk : t2.kind = .str) (hk1 : t1.kind = .int k) :
  Val P (.convert src dst x) ty [(x, I k b)] [] (S (Utf8.encode b)) := fun d pos aft gd n tm hp up hd hx hb =>
 z1m rfl hd fun β own a w hrp => ⟨.string (Utf8.encode b), by
  simp only [execOp, (hrp.ev hx.1).lit]
  simp [convert, run_underlying (h1.int hk1), run_underlying (h2.str hk), Conv.intToString], .S _⟩
end Go.Ab
namespace Go.Ab
variable {P : Program} {f : FuncId} {R : z3s} {k : List Item} {all : Array Oper} {l : List Oper}
variable {n : Nat} {tm : List (Nat × PV)} {hp : Hp} {up : Hf}
/-- cells of which less is said -/
def Wk : List PV → List PV → Prop
 | [], [] => True
 | p :: ps, q :: qs => (q = p ∨ q = .any) ∧ Wk ps qs
 | _, _ => False
theorem Wk.len : ∀ {ps qs : List PV}, Wk ps qs → qs.length = ps.length
 | [], [], _ => rfl
 | p :: ps, q :: qs, h => by simp [Wk.len h.2]
 | [], _ :: _, h => h.elim
 | _ :: _, [], h => h.elim
theorem Wk.get {β : Nm → Value} {w : World} {own : Nat → Prop} {d : Nat} : ∀ {ps qs : List PV}, Wk ps qs → ∀ (cur : List Value), (∀ (j : Nat) (x : PV) (v : Value), (PV.liftL d ps)[j]? = some x → cur[j]? = some v → PR β w own x v) → ∀ (j : Nat) (x : PV) (v : Value), (PV.liftL d qs)[j]? = some x → cur[j]? = some v → PR β w own x v
 | [], [], _, cur, h, j, x, v, hx, hv => by simp [PV.liftL] at hx
 | p :: ps, q :: qs, hw, cur, h, 0, x, v, hx, hv => by
  simp only [PV.liftL, List.getElem?_cons_zero, Option.some.injEq] at hx
  subst hx
  rcases hw.1 with rfl | rfl
  · exact h 0 _ v (by simp [PV.liftL]) hv
  · exact .any v
 | p :: ps, q :: qs, hw, cur, h, j + 1, x, v, hx, hv => by
  simp only [PV.liftL, List.getElem?_cons_succ] at hx
  cases cur with
  | nil => simp at hv
  | cons c cur => exact Wk.get hw.2 cur (fun j x v hx hv => h (j + 1) x v (by simpa [PV.liftL] using hx) (by simpa using hv)) j x v hx (by simpa using hv)
 | [], _ :: _, h, _, _, _, _, _, _, _ => h.elim
 | _ :: _, [], h, _, _, _, _, _, _, _ => h.elim
/-- less is said of a caller's block -/
theorem z5g {d X : Nat} {ps qs : List PV} (hw : Wk ps qs) (h : Run P f R k ⟨n, tm, hp, upd up (d, X) (.box qs)⟩) : Run P f R k ⟨n, tm, hp, upd up (d, X) (.box ps)⟩ := by
 refine Run.le (s := ⟨n, tm, hp, upd up (d, X) (.box qs)⟩) (fun β own a w hr => ⟨β, rfl, hr.size, hr.defers, hr.tm, ?_⟩) h
 have key : ∀ m : Nm, m ≠ (d + 1, X) → z1f (push hp (upd up (d, X) (.box qs))) m = z1f (push hp (upd up (d, X) (.box ps))) m := by
  rintro ⟨a, t⟩ hm
  cases a with
  | zero => rfl
  | succ a =>
   simp only [z1f, push, upd]
   have : ¬ (a = d ∧ t = X) := fun h => hm (by rw [h.1, h.2])
   rw [if_neg this, if_neg this]
 have e1 : z1f (push hp (upd up (d, X) (.box qs))) (d + 1, X) = some (.box (PV.liftL (d + 1) qs)) := by simp [z1f, push, upd, Blk.lift]
 have e2 : z1f (push hp (upd up (d, X) (.box ps))) (d + 1, X) = some (.box (PV.liftL (d + 1) ps)) := by simp [z1f, push, upd, Blk.lift]
 have hb := hr.heap.blk (d + 1, X) _ e2
 refine ⟨fun m b hm => ?_, fun m1 m2 b1 b2 h1 h2 l1 l2 hn => ?_, hr.heap.lt⟩
 · by_cases e : m = (d + 1, X)
   · subst e
     rw [e1] at hm
     simp only [Option.some.injEq] at hm
     subst hm
     generalize β (d + 1, X) = v at hb
     cases hb with
     | box g t cs cur ho hg hl h1 hd =>
      refine .box g t _ cur ho hg ?_ h1 (Wk.get hw cur hd)
      rw [PV.liftL_length, hw.len, ← hl, PV.liftL_length]
   · rw [key m e] at hm; exact hr.heap.blk m b hm
 · have tr : ∀ m b, z1f (push hp (upd up (d, X) (.box qs))) m = some b → b.live = true → ∃ b', z1f (push hp (upd up (d, X) (.box ps))) m = some b' ∧ b'.live = true := by
    intro m b hm hl
    by_cases e : m = (d + 1, X)
    · subst e; exact ⟨_, e2, rfl⟩
    · exact ⟨b, by rw [← key m e]; exact hm, hl⟩
   obtain ⟨c1, q1, k1⟩ := tr m1 b1 h1 l1
   obtain ⟨c2, q2, k2⟩ := tr m2 b2 h2 l2
   exact hr.heap.inj m1 m2 c1 c2 q1 q2 k1 k2 hn
end Go.Ab
namespace Go.Ab
variable {P : Program} {f : FuncId} {R : z3s} {k : List Item} {all : Array Oper} {l : List Oper}
variable {n : Nat} {tm : List (Nat × PV)} {hp : Hp} {up : Hf} {d : Nat} {ty : TypeId} {pos : String} {aft : Array Edge} {gd : Option (Nat × Bool)} {p : PV}
theorem z14 {t : TypeId} {ti : TI} [ht : z1d P t ti] {x : Operand} {md ms off : Nat} {b : Blk} {cs : List PV} (hev : EvE ⟨n, tm, hp, up⟩ [(x, .ptr (md + 1, ms) off)]) (hb : up md ms = some b) (hc : atF (md + 1, ms) b = .box cs) (hy : cs[off]? = some p) (hs : ti.size = 1) (ha : ti.agg = false) (hd : d < n)
  (h : Ops P f R all l k ⟨n, (d, p) :: tm, hp, up⟩) : Op1 P f R all ⟨some d, .load t x, ty, pos, aft, gd⟩ l k ⟨n, tm, hp, up⟩ :=
 z00 (z0k (m := (md + 1, ms)) (b := b) hc hy hs ha) hev (bkN hb) hd h
theorem z6s {id : Nat} {ops : List Oper} {s0 : St} {done : List Eff} {gr : List (Nat × PV)} {t : TypeId} {ti : TI} [ht : z1d P t ti] {x : Operand} {md ms off : Nat} {b : Blk} {cs : List PV} (hg : GOK ops.toArray gd gr ⟨n, tm, hp, up⟩) (hev : EvE ⟨n, tm, hp, up⟩ [(x, .ptr (md + 1, ms) off)]) (hb : up md ms = some b) (hc : atF (md + 1, ms) b = .box cs) (hy : cs[off]? = some p) (hs : ti.size = 1) (ha : ti.agg = false) (hd : d < n)
  (h : Tr P f R id ops k s0 (done ++ [⟨gr ++ rd [(x, .ptr (md + 1, ms) off)], [((md + 1, ms), b)], [], [(d, p)], []⟩]) ⟨n, (d, p) :: tm, hp, up⟩ l) : Tr P f R id ops k s0 done ⟨n, tm, hp, up⟩ (⟨some d, .load t x, ty, pos, aft, gd⟩ :: l) :=
 z0n (z0k (m := (md + 1, ms)) (b := b) hc hy hs ha) hg hev (bkN hb) hd h
end Go.Ab
namespace Go.Ab
open Go.RowKit Go.Sort
abbrev zme (l : List Value) : List D := l.map D.lit
theorem zl0 {α : Type} [Inhabited α] {P : Program} {f : FuncId} {e : TypeId} {k : Nat} (hk0 : 0 < k) (enc : α → List Value) (hk : ∀ x, (enc x).length = k) (h1c : ∀ x, ∀ v ∈ enc x, v.oneCell' = true) (hp : Plain P f) {p2 : PV} {fv : Value}
  (hfv : ∀ β w own v, PR β w own p2 v → v = fv) (q S : List α) (hSl : S.length = q.length)
  (hcall : ∀ (blk off cap : Nat) (w : World), HoldsK enc k w blk off q.toArray → blk < w.heap.size →
    Calls P f #[.slice (some ⟨blk, off, none⟩) q.length cap, fv] w fun e w' => e = .returned (.tuple #[]) ∧ ∃ n os, w' = grow (putRowK enc k (Sort.ahead w n) blk off S.toArray) os)
  (hnone : ∀ (p : Option Addr) (cap : Nat) (w : World), Calls P f #[.slice p 0 cap, fv] w fun e w' => e = .returned (.tuple #[]) ∧ w' = w)
  (d x : Nat) : z36 P f [.ref (d, x), p2] [((d, x), .row e k (q.map fun x => zme (enc x)))] [((d, x), .row e k (S.map fun x => zme (enc x)))] (.tup []) := by
 refine zd4 hp fun H hH β own w vals hHR hA => ?_
 have hH0 := hH ((d, x), .row e k (q.map fun x => zme (enc x))) (by simp)
 obtain ⟨hl, ha⟩ := hA
 obtain ⟨v, u, rfl⟩ : ∃ v u, vals = [v, u] := by
  match vals, hl with
  | [v, u], _ => exact ⟨v, u, rfl⟩
 have hv := ha 0 _ v rfl rfl
 have hv : v = β (d, x) := by cases hv with | ref _ => rfl
 subst hv
 have hu := hfv _ _ _ _ (ha 1 _ u rfl rfl)
 subst hu
 have hL : z1f H (d, x) = some (.row e k (q.map fun x => zme (enc x))) := by
  cases d with
  | zero => exact hH0
  | succ d => simp only [z1f]; rw [hH0]; rfl
 have hblk := hHR.blk (d, x) _ hL
 obtain ⟨vv, hvv⟩ : ∃ vv, β (d, x) = vv := ⟨_, rfl⟩
 rw [hvv] at hblk
 have fin : ∀ w', Ext w own w' own → HR (upd H (d, x) (.row e k (S.map fun x => zme (enc x)))) β own w' → zup (fun r H' => r = .v (.tup []) ∧ H' = zf4 H [((d, x), .row e k (S.map fun x => zme (enc x)))]) β own w (.returned (.tuple #[])) w' := fun w' hE hR =>
  ⟨_, _, _, own, rfl, ⟨rfl, rfl⟩, .v _ _ (.tup [] [] rfl (by simp)), hR, hE⟩
 by_cases h0 : q = []
 · subst h0
   obtain rfl : S = [] := by simpa using hSl
   have hr := hblk
   cases hr with
   | row _ _ _ _ vs ho hk hown hd =>
    have hcl : ∃ p cap, vv = .slice p 0 cap := by
     rcases hown.2 with ⟨h1, _⟩ | ⟨g, cap, cur, h1, _⟩
     · exact ⟨none, 0, h1⟩
     · exact ⟨_, cap, by simpa using h1⟩
    obtain ⟨p, cap, hcl⟩ := hcl
    rw [hvv, hcl]
    refine (hnone p cap w).mono ?_
    rintro e' w' ⟨rfl, rfl⟩
    refine fin _ (Ext.refl _ _) ?_
    rw [zhh (m := (d, x)) hH0]
    exact hHR
 · have hr := hblk
   cases hr with
   | row _ _ _ _ vs ho hkk hown hd =>
    have hql : 0 < q.length := List.length_pos_iff.2 h0
    rcases hown.2 with ⟨_, h1⟩ | ⟨g, cap, cur, h1, _, hg, hcap, hmax, hcs, htake⟩
    · simp at h1; exact absurd h1 h0
    · rw [List.length_map] at h1 hcap
      have h1' := hvv.trans h1
      have hdm : ∀ t, t / k * k + t % k = t := fun t => by rw [Nat.mul_comm]; exact Nat.div_add_mod t k
      have hdl : ∀ n t, t < n * k → t / k < n := fun n t h => by rw [Nat.div_lt_iff_lt_mul hk0]; exact h
      have hvs : ∀ t, t < q.length * k → cur[t]? = some (flatK enc k q.toArray)[t]! := fun t ht => by
       have hi := hdl _ t ht
       have hj := Nat.mod_lt t hk0
       have hq : q[t / k]? = some q[t / k] := List.getElem?_eq_getElem hi
       have he : (enc q[t / k])[t % k]? = some ((enc q[t / k])[t % k]'(by rw [hk]; exact hj)) := List.getElem?_eq_getElem _
       obtain ⟨v, hv1, hv2⟩ := hd.2.2.2 (t / k) (zme (enc q[t / k])) (by rw [List.getElem?_map, hq]; rfl) (t % k) (.lit ((enc q[t / k])[t % k]'(by rw [hk]; exact hj))) (by rw [List.getElem?_map, he]; rfl)
       rw [hdm, ← htake, List.length_map, List.getElem?_take_of_lt ht] at hv1
       have : v = (enc q[t / k])[t % k]'(by rw [hk]; exact hj) := by cases hv2 with | lit _ _ => rfl
       subst this
       rw [get_flatK _ _ _ _ (by simpa using ht)]
       have hi' : t / k < q.toArray.size := by simpa using hi
       rw [getElem!_pos q.toArray _ hi', getElem!_pos _ _ (by rw [hk]; exact hj)]
       simpa using hv1
      have hholds : HoldsK enc k w g 0 q.toArray := fun j hj => by
       have hj : j < q.length * k := by simpa using hj
       refine ⟨?_, zkg hg⟩
       rw [cell_of hg, Nat.zero_add, hvs j hj]; rfl
      have hgl : g < w.heap.size := (Array.getElem?_eq_some_iff.1 hg).1
      rw [h1']
      refine (hcall g 0 cap w hholds hgl).mono ?_
      rintro e' w' ⟨rfl, n, os, rfl⟩
      obtain ⟨w1, hw1⟩ : ∃ w1, putRowK enc k (Sort.ahead w n) g 0 S.toArray = w1 := ⟨_, rfl⟩
      rw [hw1]
      have hheap : ∀ j, w1.heap[j]? = if g = j then some (.cells (putCells id 0 (flatK enc k S.toArray) cur) e (0, 0)) else w.heap[j]? := fun j => by
       rw [← hw1]
       simp only [putRowK, putRow, mapBlock, Sort.ahead, Array.getElem?_modify]
       split
       · rename_i hk; subst hk; rw [hg]; rfl
       · rfl
      have hsz : w1.heap.size = w.heap.size := by rw [← hw1]; simp [putRowK, putRow, mapBlock, Sort.ahead]
      have hog : own g := ho g (by rw [h1]; rfl)
      have hE : Ext w own w1 own := by
       refine ⟨by rw [← hw1]; rfl, by rw [← hw1]; rfl, by rw [← hw1]; rfl, by omega, fun b hb hob => ?_, fun b hb hob => hob⟩
       rw [hheap, if_neg fun hh => hob (by rw [← hh]; exact hog)]
      have hmul : S.length * k = q.length * k := by rw [hSl]
      have hcurL : S.length * k ≤ cur.size := by
       rw [hcs, hmul]; exact Nat.mul_le_mul_right k hcap
      have hput : ∀ t, t < S.length * k → (putCells id 0 (flatK enc k S.toArray) cur)[t]? = some (flatK enc k S.toArray)[t]! := fun t ht => by
       have hjc : t < cur.size := by omega
       simp only [putCells, Array.getElem?_mapIdx, Array.getElem?_eq_getElem hjc, Option.map_some]
       rw [if_pos (by simp; omega)]
       simp
      have hfl : ∀ t, t < S.length * k → ∃ (hi : t / k < S.length) (hj : t % k < (enc S[t / k]).length), (flatK enc k S.toArray)[t]! = (enc S[t / k])[t % k] := fun t ht => by
       have hi := hdl _ t ht
       have hj : t % k < (enc S[t / k]).length := by rw [hk]; exact Nat.mod_lt t hk0
       refine ⟨hi, hj, ?_⟩
       rw [get_flatK _ _ _ _ (by simpa using ht)]
       have hi' : t / k < S.toArray.size := by simpa using hi
       rw [getElem!_pos S.toArray _ hi']
       rw [getElem!_pos _ _ (by rw [hk]; exact Nat.mod_lt t hk0)]
       simp
      have htk : ((putCells id 0 (flatK enc k S.toArray) cur).toList.take (S.length * k)) = (flatK enc k S.toArray).toList := by
       apply List.ext_getElem?
       intro j
       rw [List.getElem?_take]
       by_cases hj : j < S.length * k
       · rw [if_pos hj, Array.getElem?_toList, hput j hj, Array.getElem?_toList]
         rw [getElem!_pos _ _ (by simpa using hj), Array.getElem?_eq_getElem]
       · rw [if_neg hj, List.getElem?_eq_none (by simp; omega)]
      have hbr : BR β w1 own (β (d, x)) (.row e k (S.map fun x => zme (enc x))) := by
       rw [h1']
       refine .row _ e k _ (flatK enc k S.toArray).toList (fun g' hg' => by simp [Value.ownBlock] at hg'; subst hg'; exact hog) (by omega) ?_ ?_
       · refine ⟨by simp, .inr ⟨g, cap, putCells id 0 (flatK enc k S.toArray) cur, by rw [List.length_map, hSl], Nat.zero_le _, by rw [hheap, if_pos rfl], by rw [List.length_map, hSl]; exact hcap, hmax, by simp [putCells, hcs], ?_⟩⟩
         rw [List.length_map]; exact htk
       · refine ⟨fun y hy => ?_, by simp, fun v hv => ?_, fun i y hy j z hz => ?_⟩
         · simp only [List.mem_map] at hy; obtain ⟨s, _, rfl⟩ := hy; simp [zme, hk]
         · obtain ⟨t, ht, rfl⟩ := List.getElem_of_mem hv
           have ht' : t < S.length * k := by simpa using ht
           obtain ⟨hi, hj, e2⟩ := hfl t ht'
           rw [getElem!_pos _ _ (by simpa using ht')] at e2
           rw [Array.getElem_toList, e2]
           exact h1c _ _ (List.getElem_mem hj)
         · rw [List.getElem?_map] at hy
           cases hs : S[i]? with
           | none => rw [hs] at hy; simp at hy
           | some s =>
            rw [hs] at hy; simp only [Option.map_some, Option.some.injEq] at hy; subst hy
            rw [List.getElem?_map] at hz
            cases hz1 : (enc s)[j]? with
            | none => rw [hz1] at hz; simp at hz
            | some v =>
             rw [hz1] at hz; simp only [Option.map_some, Option.some.injEq] at hz; subst hz
             have hjk : j < k := by rw [← hk s]; exact (List.getElem?_eq_some_iff.1 hz1).1
             have hil := (List.getElem?_eq_some_iff.1 hs).1
             have hlt : i * k + j < S.length * k := by
              calc i * k + j < i * k + k := by omega
               _ = (i + 1) * k := by rw [Nat.add_mul, Nat.one_mul]
               _ ≤ S.length * k := Nat.mul_le_mul_right k hil
             have hdi : (i * k + j) / k = i := by rw [Nat.mul_comm, Nat.mul_add_div hk0, Nat.div_eq_of_lt hjk, Nat.add_zero]
             have hmo : (i * k + j) % k = j := by rw [Nat.mul_comm, Nat.mul_add_mod, Nat.mod_eq_of_lt hjk]
             refine ⟨v, ?_, .lit v (h1c s v (List.mem_of_getElem? hz1))⟩
             rw [Array.getElem?_toList, Array.getElem?_eq_getElem (by simpa using hlt), ← getElem!_pos, get_flatK _ _ _ _ (by simpa using hlt), hdi, hmo]
             have hi' : i < S.toArray.size := by simpa using hil
             rw [getElem!_pos S.toArray _ hi']
             have : S.toArray[i] = s := by
              have := (List.getElem?_eq_some_iff.1 hs).2
              simpa using this
             rw [this]
             simp [hz1]
      have hR1 := hHR.change (m := (d, x)) (raw := .row e k (S.map fun x => zme (enc x))) hL rfl hE hsz (fun g' hg' => by rw [hheap, if_neg fun hh => hg' (by rw [h1', hh]; rfl)]) (by rw [z8c]; exact hbr)
      have hB : RowKit.Below w1.heap.size w1 (grow w1 os) := ⟨rfl, rfl, rfl, by simp [grow], fun k hk => by simp only [grow]; rw [Array.getElem?_append_left hk]⟩
      exact fin _ (hE.trans (Below.ext hB own)) (hR1.below hB)
end Go.Ab
namespace Go.Ab
variable {P : Program}
theorem z92 {s : St} {β : Nm → Value} {own : Nat → Prop} {a : Act} {w : World} (hrep : Rep s β own a w) {t ms : Nat} {ty : TypeId} {ti : TI} [hty : z1d P ty ti] {x : D} (ht : look s.tm t = some (.ptr (0, ms) 0)) (hb : look s.hp ms = some (.box [.d x])) (hs : ti.size = 1) (ha : ti.agg = false) :
  ∃ g v, a.tmps[t]?.getD undef = .pointer (some ⟨g, 0, none⟩) ∧ (loadVar ty ⟨g, 0, none⟩).run P w = .ok v w ∧ PR β w own (.d x) v := by
 have hp := hrep.tm t _ ht
 obtain ⟨g, tt, cur, hβ, ho, hg, hl0, h1, hd0⟩ := hrep.box (m := (0, ms)) hb
 obtain ⟨c, rfl⟩ : ∃ c, cur = [c] := by
  cases cur with
  | nil => simp at hl0
  | cons c r => cases r with
   | nil => exact ⟨c, rfl⟩
   | cons _ _ => simp at hl0
 refine ⟨g, c, ?_, ?_, hd0 0 _ c rfl rfl⟩
 · rw [← Array.getD_eq_getD_getElem?]
   generalize a.tmps.getD t undef = v at hp
   cases hp with
   | ptr _ _ g' hg' => rw [hβ] at hg'; simp at hg'; subst hg'; rfl
 · have := z2a (P := P) hty g 0 [c] w (by simp [hs]) (fun j v hj => by
    rw [Nat.zero_add, cell_of_row w g j _ tt (0, 0) hg]; simpa using hj)
   rcases this with h' | h'
   · simpa [ha] using h'
   · exact absurd hs h'.2
/-- four results, each in a variable of its own -/
theorem zfg {fn : Func} {s : St} {t1 t2 t3 t4 m1 m2 m3 m4 : Nat} {y1 y2 y3 y4 : TypeId} {i1 i2 i3 i4 : TI} {x1 x2 x3 x4 : D} [h1 : z1d P y1 i1] [h2 : z1d P y2 i2] [h3 : z1d P y3 i3] [h4 : z1d P y4 i4] (h : fn.results = #[.cell t1 y1, .cell t2 y2, .cell t3 y3, .cell t4 y4])
  (a1 : look s.tm t1 = some (.ptr (0, m1) 0)) (a2 : look s.tm t2 = some (.ptr (0, m2) 0)) (a3 : look s.tm t3 = some (.ptr (0, m3) 0)) (a4 : look s.tm t4 = some (.ptr (0, m4) 0)) (b1 : look s.hp m1 = some (.box [.d x1])) (b2 : look s.hp m2 = some (.box [.d x2])) (b3 : look s.hp m3 = some (.box [.d x3])) (b4 : look s.hp m4 = some (.box [.d x4]))
  (s1 : i1.size = 1) (s2 : i2.size = 1) (s3 : i3.size = 1) (s4 : i4.size = 1) (g1 : i1.agg = false) (g2 : i2.agg = false) (g3 : i3.agg = false) (g4 : i4.agg = false) :
  Res P fn s (.v (.tup [.d x1, .d x2, .d x3, .d x4])) := fun β own a w hrep => by
 obtain ⟨p1, v1, e1, l1, r1⟩ := z92 (P := P) hrep (ty := y1) a1 b1 s1 g1
 obtain ⟨p2, v2, e2, l2, r2⟩ := z92 (P := P) hrep (ty := y2) a2 b2 s2 g2
 obtain ⟨p3, v3, e3, l3, r3⟩ := z92 (P := P) hrep (ty := y3) a3 b3 s3 g3
 obtain ⟨p4, v4, e4, l4, r4⟩ := z92 (P := P) hrep (ty := y4) a4 b4 s4 g4
 refine ⟨.tuple #[v1, v2, v3, v4], own, ?_, Ext.refl _ _, hrep.heap.outer, ?_⟩
 · simp [results, h, e1, e2, e3, e4, asAddr, l1, l2, l3, l4]
 · refine .v _ _ (.tup [.d x1, .d x2, .d x3, .d x4] [v1, v2, v3, v4] rfl fun j p v hp hv => ?_)
   match j with
   | 0 => simp only [List.getElem?_cons_zero, Option.some.injEq] at hp hv; subst hp hv; exact r1.low (.d x1) rfl
   | 1 => simp only [List.getElem?_cons_succ, List.getElem?_cons_zero, Option.some.injEq] at hp hv; subst hp hv; exact r2.low (.d x2) rfl
   | 2 => simp only [List.getElem?_cons_succ, List.getElem?_cons_zero, Option.some.injEq] at hp hv; subst hp hv; exact r3.low (.d x3) rfl
   | 3 => simp only [List.getElem?_cons_succ, List.getElem?_cons_zero, Option.some.injEq] at hp hv; subst hp hv; exact r4.low (.d x4) rfl
   | j + 4 => simp at hp
/-- one result, in a variable -/
theorem zfd {fn : Func} {s : St} {t m : Nat} {y : TypeId} {i : TI} {x : D} [h1 : z1d P y i] (h : fn.results = #[.cell t y]) (a1 : look s.tm t = some (.ptr (0, m) 0)) (b1 : look s.hp m = some (.box [.d x])) (s1 : i.size = 1) (g1 : i.agg = false) : Res P fn s (.v (.d x)) := fun β own a w hrep => by
 obtain ⟨p1, v1, e1, l1, r1⟩ := z92 (P := P) hrep (ty := y) a1 b1 s1 g1
 refine ⟨v1, own, ?_, Ext.refl _ _, hrep.heap.outer, .v _ _ (r1.low (.d x) rfl)⟩
 simp [results, h, e1, asAddr, l1]
end Go.Ab
namespace Go.Ab
variable {P : Program}
theorem z4o {fn : Func} {s : St} {t u q ms : Nat} {ty : TypeId} {ti : TI} {x y : D} [hty : z1d P ty ti] {cs : List PV} {ds : List D} (h : fn.results = #[.cell t ty, .tmp u, .tmp q]) (ht : look s.tm t = some (.ptr (0, ms) 0)) (hu : look s.tm u = some (.d x)) (hq : look s.tm q = some (.d y)) (hb : look s.hp ms = some (.box cs)) (hds : z9f cs = some ds) (hs : ds.length = ti.size) (ha : ti.agg = true) :
  Res P fn s (.v (.tup [.d (.agg ds), .d x, .d y])) := fun β own a w hrep => by
 have hp := hrep.tm t _ ht
 have hpu := hrep.tm u _ hu
 have hpq := hrep.tm q _ hq
 obtain ⟨g, tt, cur, hβ, ho, hg, hl0, h1, hd0⟩ := hrep.box (m := (0, ms)) hb
 obtain ⟨hl, _, hd⟩ := z5w (own := own) (w := w) (β := β) ⟨hl0, h1, hd0⟩ hds
 refine ⟨.tuple #[.agg cur.toArray, a.tmps.getD u undef, a.tmps.getD q undef], own, ?_, Ext.refl _ _, hrep.heap.outer, ?_⟩
 · generalize hv : a.tmps.getD t undef = v at hp
   cases hp with
   | ptr _ _ g' hg' =>
    rw [hβ] at hg'; simp at hg'; subst hg'
    have hlen : cur.length = ti.size := by rw [← hl, List.length_map, hs]
    have := z2a (P := P) hty g 0 cur w hlen (fun j v hj => by
     rw [Nat.zero_add, cell_of_row w g j _ tt (0, 0) hg]; simpa using hj)
    rcases this with h' | h'
    · have hv2 : a.tmps[t]?.getD undef = .pointer (some ⟨g, 0, none⟩) := by rw [← Array.getD_eq_getD_getElem?]; exact hv
      simp [results, h, hv2, asAddr, h', ha]
    · rw [ha] at h'; cases h'.1
 · refine .v _ _ (.tup [.d (.agg ds), .d x, .d y] [.agg cur.toArray, a.tmps.getD u undef, a.tmps.getD q undef] rfl fun j p v hp hv => ?_)
   match j with
   | 0 =>
    simp only [List.getElem?_cons_zero, Option.some.injEq] at hp hv; subst hp hv
    refine .d _ _ (.agg _ _ (by simpa using hl) h1 fun j x v hx hv => ?_)
    have := hd j (.d x) v (by rw [List.getElem?_map, hx]; rfl) hv
    cases this with | d _ _ h => exact h
   | 1 => simp only [List.getElem?_cons_succ, List.getElem?_cons_zero, Option.some.injEq] at hp hv; subst hp hv; exact hpu.low (.d x) rfl
   | 2 => simp only [List.getElem?_cons_succ, List.getElem?_cons_zero, Option.some.injEq] at hp hv; subst hp hv; exact hpq.low (.d y) rfl
   | j + 3 => simp at hp
end Go.Ab
namespace Go.Ab
theorem zou : IntKind.u64.bits = 64 := rfl
theorem zmn (a : Nat) (h : a < 2 ^ 64) : (BitVec.ofInt IntKind.u64.bits (a : Int)).toNat = a := by
 show (BitVec.ofInt 64 (a : Int)).toNat = a
 rw [BitVec.ofInt_natCast, BitVec.toNat_ofNat]
 exact Nat.mod_eq_of_lt h
theorem zqv {a b : Nat} (ha : a < 2 ^ 64) (hb : b < 2 ^ 64) : zqh .u64 a b = ((a &&& b : Nat) : Int) := by
 rw [zqh, BitVec.toNat_and, zmn a ha, zmn b hb]
 have := Nat.and_le_left (n := a) (m := b)
 exact zus (by omega) (by omega)
theorem zqt {a b : Nat} (ha : a < 2 ^ 64) (hb : b < 2 ^ 64) : orV .u64 a b = ((a ||| b : Nat) : Int) := by
 rw [orV, BitVec.toNat_or, zmn a ha, zmn b hb]
 have := Nat.or_lt_two_pow ha hb
 exact zus (by omega) (by omega)
theorem ztc {i : Nat} (hi : i < 64) : zum .u64 1 (i : Nat) = ((2 ^ i : Nat) : Int) := by
 have hm : min (i : Int).toNat IntKind.u64.bits = i := by rw [zou]; simp; omega
 have hp : 2 ^ i < 2 ^ 64 := Nat.pow_lt_pow_right (by decide) hi
 rw [zum, hm, Int.one_mul]
 have : ((2 : Int) ^ i) = ((2 ^ i : Nat) : Int) := by simp
 rw [this]
 generalize 2 ^ i = p at hp
 exact zus (by omega) (by omega)
theorem zr9 {S i : Nat} (hS : S < 2 ^ 64) (hi : i ≤ 64) : zqh .u64 (zrt .u64 S (i : Nat)) 1 = if S.testBit i = true then 1 else 0 := by
 have h1 : zrt .u64 S (i : Nat) = ((S / 2 ^ i : Nat) : Int) := by
  rw [zrq (by omega) (by rw [zou]; simp; exact hi), Int.toNat_natCast]
  simp
 have h2 : S / 2 ^ i < 2 ^ 64 := Nat.lt_of_le_of_lt (Nat.div_le_self _ _) hS
 rw [h1, show (1 : Int) = ((1 : Nat) : Int) from rfl, zqv h2 (by decide), Nat.and_one_is_mod, Nat.testBit_eq_decide_div_mod_eq]
 rcases Nat.mod_two_eq_zero_or_one (S / 2 ^ i) with h | h <;> simp [h]
end Go.Ab
namespace Go.Ab
variable {P : Program} {f : FuncId} {R : z3s} {k : List Item} {all : Array Oper} {o : Oper} {l : List Oper}
variable {n : Nat} {tm : List (Nat × PV)} {hp : Hp} {up : Hf} {d : Nat} {ty : TypeId} {pos : String} {aft : Array Edge} {gd : Option (Nat × Bool)} {op : Op} {p : PV}
theorem Quiet.upd {H : Hf} {y : Nat} {A : Blk} {ms : Nat} (h : Quiet H ms) (hA : A.says (0, ms) = false) : Quiet (Ab.upd H (0, y) A) ms := by
 intro s b hb
 simp only [Ab.upd, true_and] at hb
 by_cases h0 : s = y
 · rw [if_pos h0] at hb; simp at hb; subst hb; exact hA
 · rw [if_neg h0] at hb; exact h s b hb
end Go.Ab
namespace Go.Ab
variable {P : Program} {f : FuncId} {R : z3s} {k : List Item} {all : Array Oper} {l : List Oper}
variable {n : Nat} {tm : List (Nat × PV)} {hp : Hp} {up : Hf} {d : Nat} {ty : TypeId} {pos : String} {aft : Array Edge} {gd : Option (Nat × Bool)} {p : PV}
/-- a call that reads one own block and changes another one -/
theorem zdv {g : FuncId} {args : List Operand} {ps : List PV} {ats : Array TypeId} {m1 m2 : Nat} {b1 b2 b' : Blk} (hsp : z36 P g ps [((0, m1), b1), ((0, m2), b2)] [((0, m2), b')] p) (hev : St.evs ⟨n, tm, hp, up⟩ args = some ps)
  (h1 : look hp m1 = some b1) (h2 : look hp m2 = some b2) (hd : d < n) (h : Ops P f R all l k ⟨n, (d, p) :: tm, (m2, b') :: hp, up⟩) :
  Op1 P f R all ⟨some d, .call ⟨.value (.func g), args.toArray, ats⟩, ty, pos, aft, gd⟩ l k ⟨n, tm, hp, up⟩ :=
 zgd hsp hev (by simp [BkE, z5c, push, h1, h2]) hd rfl h
theorem zjl {P : Program} {f : FuncId} {R : z3s} {k : List Item} {n : Nat} {tm : List (Nat × PV)} {hp : Hp} {up : Hf} {m : Nm} {b : Blk} (hb : up m.1 m.2 = some b) (h : Run P f R k ⟨n, tm, hp, upd up m b⟩) : Run P f R k ⟨n, tm, hp, up⟩ := by
 rwa [zhh hb] at h
end Go.Ab
namespace Go.Ab
variable {P : Program} {f : FuncId} {R : z3s} {k : List Item} {all : Array Oper} {l : List Oper}
variable {n : Nat} {tm : List (Nat × PV)} {hp : Hp} {up : Hf} {d : Nat} {ty : TypeId} {pos : String} {aft : Array Edge} {gd : Option (Nat × Bool)} {p : PV}
end Go.Ab
namespace Go.Ab
variable {P : Program} {f : FuncId} {R : z3s} {k : List Item} {all : Array Oper} {o : Oper} {l : List Oper}
variable {n : Nat} {tm : List (Nat × PV)} {hp : Hp} {up : Hf} {d : Nat} {ty : TypeId} {pos : String} {aft : Array Edge} {gd : Option (Nat × Bool)} {op : Op} {p : PV}
/-- the bytes of a string -/
def btI (s : ByteArray) : List Int := s.data.toList.map fun b => (b.toNat : Int)
abbrev by8 (x : Int) : List D := [.lit (.int .u8 x)]
theorem zee (s : ByteArray) : (btI s).length = s.size := by rw [btI, List.length_map, Array.length_toList]; rfl
theorem zfj (s : ByteArray) : Lib.strCells s = (btI s).map fun x => Value.int .u8 x := by rw [Lib.strCells, btI, List.map_map]; rfl
theorem znp (w : World) (own : Nat → Prop) (s : ByteArray) : z9e w own 1 ((btI s).map by8) (Lib.strCells s) := by
 refine ⟨fun x hx => ?_, ?_, fun v hv => ?_, fun i x hi j y hj => ?_⟩
 · simp only [List.mem_map] at hx; obtain ⟨a, _, rfl⟩ := hx; rfl
 · rw [Lib.strCells_length, List.length_map, zee, Nat.mul_one]
 · simp only [Lib.strCells, List.mem_map] at hv; obtain ⟨b, _, rfl⟩ := hv; rfl
 · rw [List.getElem?_map] at hi
   cases hb : (btI s)[i]? with
   | none => rw [hb] at hi; cases hi
   | some b =>
    rw [hb] at hi; simp at hi; subst hi
    cases j with
    | zero =>
     simp at hj; subst hj
     refine ⟨.int .u8 b, ?_, .lit _ rfl⟩
     rw [zfj, Nat.mul_one, Nat.add_zero, List.getElem?_map, hb]; rfl
    | succ j => simp at hj
theorem zcd (w : World) (t u ty e : TypeId) (i : TypeInfo) (ht : P.underlying t = some (.slice e)) (hu : P.underlying u = some .string) (hi : P.info? e = some i) (hz : i.zero = some (.int .u8 0)) (hsize : i.size = 1) (hby : i.bytes = 1)
  (v : Value) (n : Nat) (xs : List Value) (hown : w.ownsRow 0 e 1 v n xs) (s : ByteArray) (hbytes : n + s.size ≤ 137438953472) :
  ∃ v' w', (Builtin.append_ #[t, u] ty #[v, .string s]).run P w = .ok v' w' ∧ w'.ownsRow 0 e 1 v' (n + s.size) (xs ++ Lib.strCells s) ∧ w.grownBy w' v.ownBlock ∧ (v'.ownBlock = v.ownBlock ∨ v'.ownBlock = some w.heap.size) := by
 obtain ⟨v', w', hrun, h2, h3, _⟩ := Lib.run_append_own_string (P := P) w 0 t u ty e i ht hu hi hz hsize hby v n xs hown s (by unfold maxLen; omega) (by omega) (Nat.zero_le _)
 refine ⟨v', w', hrun, h2, h3, ?_⟩
 rcases hown.2 with ⟨rfl, rfl⟩ | ⟨g, cap, cur, rfl, hbg, hg, hnc, hcm, hcs, htake⟩
 · by_cases hs : s.size = 0
   · have hx := h2.2
     rw [hs, Nat.add_zero] at hx
     have hr := Lib.run_append_own_string (P := P) w 0 t u ty e i ht hu hi hz hsize hby (.slice none 0 0) 0 xs hown s (by unfold maxLen; omega) (by omega) (Nat.zero_le _)
     obtain ⟨v2, w2, r2, _, _, q2⟩ := hr
     rw [r2] at hrun
     simp only [Result.ok.injEq] at hrun
     left; rw [← hrun.1, q2.2 ⟨rfl, hs⟩]
   · have hr := run_append_nil_string (P := P) w t u ty e i (.int .u8 0) ht hu hi hz s (by omega) (by omega) (by rw [hby]; omega)
     rw [hr] at hrun
     simp only [Result.ok.injEq] at hrun
     right; rw [← hrun.1]; rfl
 · by_cases hroom : n + s.size ≤ cap
   · have hr := Lib.run_append_room_string (P := P) w t u ty e i ht hu hi hsize g n cap cur hg s hroom (by omega)
     rw [hr] at hrun
     simp only [Result.ok.injEq] at hrun
     left; rw [← hrun.1]; rfl
   · have holds : ∀ j u, xs[j]? = some u → w.cell? ((⟨g, 0, none⟩ : Addr).add j) = some u := hown.cells (g := g) rfl
     have hxl : xs.length = n := by simpa using hown.1
     have hr := Lib.run_append_grow_string (P := P) w t u ty e i (.int .u8 0) ht hu hi hz ⟨g, 0, none⟩ n cap xs (by rw [hsize]; simpa using hxl) holds s (by omega) (by omega) (by rw [hby]; exact growslice_fits (by omega) (by omega))
     rw [hr] at hrun
     simp only [Result.ok.injEq] at hrun
     right; rw [← hrun.1]; rfl
theorem zc2 {s : St} {t tu e : TypeId} {ti tui te : TI} (ht : z1d P t ti) (hu : z1d P tu tui) (he : z1d P e te) {x y : Operand} {m : Nm} {e' : TypeId} {kk : Nat} {xs : List (List D)} {sb : ByteArray} (hx : s.ev x = some (.ref m)) (hy : s.ev y = some (S sb)) (hb : z5c s m = some (.row e' kk xs))
  (hm : m.1 = 0) (hk : ti.kind = .slice e) (hku : tui.kind = .str) (hee : e' = e) (hkk : kk = 1) (hs1 : te.size = 1) (hb1 : te.bytes = 1) (hz : (P.info? e).bind (·.zero) = some (Value.int .u8 0)) (hsm : xs.length + sb.size ≤ 137438953472)
  (hf : (z1r d s.hp && z1t d s.tm) = true) (hd : d < s.n) :
  z2r P ⟨some d, .call ⟨.builtin .append, #[x, y], #[t, tu]⟩, ty, pos, aft, gd⟩ s (s.app ⟨[], [], [], [(d, .ref (0, d))], [(m, .gone), ((0, d), .row e kk (xs ++ (btI sb).map by8))]⟩) := by
 obtain ⟨n, tm, hp, up⟩ := s
 obtain ⟨md, ms⟩ := m
 simp only at hm hf hd
 subst hm hee hkk
 intro β own a w hr
 have hlook : z1f (push hp up) (0, ms) = some (.row e' 1 xs) := hb
 obtain ⟨vs, ho, hk0, hown, hrr⟩ := hr.row hlook
 have hyv := (hr.ev hy).lit
 have hxv := hr.ev hx
 generalize hv : a.eval x = v at hxv
 cases hxv with
 | ref _ =>
  obtain ⟨i, uu, z, hi, huu, hzi, hs, hb', hkk, hzz, _⟩ := he.get
  have hz0 : i.zero = some (.int .u8 0) := by
   rw [hi] at hz; exact hz
  obtain ⟨v', w', hrun, hown', hgrow, hwhere⟩ := zcd (P := P) w t tu ty e' i (ht.slice hk) (hu.str hku) hi hz0 (hs.trans hs1) (hb'.trans hb1) (β (0, ms)) xs.length vs hown sb hsm
  have hus := znp w own sb
  have hblk := z5m hown'
  have hblk0 := z5m hown
  have hE : Ext w own w' (fun g => own g ∨ v'.ownBlock = some g) := by
   refine ⟨hgrow.os, hgrow.tape, hgrow.output, hgrow.size, fun b hb hno => hgrow.block b hb fun e => hno (ho b e.symm), fun b hb hno => ?_⟩
   rintro (h | h)
   · exact hno h
   · rcases hwhere with e | e
     · rw [e] at h; exact hno (ho b h)
     · rw [e] at h; simp at h; omega
  have hr0 : Rep ⟨n, tm, (ms, .gone) :: hp, up⟩ β own a w := ⟨hr.size, hr.defers, hr.tm, by
   have := hr.heap.drop (0, ms)
   rwa [← z5a ⟨n, tm, hp, up⟩ (0, ms) .gone] at this⟩
  have hrow : z9e w' (fun g => own g ∨ v'.ownBlock = some g) 1 (xs ++ (btI sb).map by8) (vs ++ Lib.strCells sb) := (z9e.app hrr hus).mono hE
  have hin := hr0.install (d := d) (b := .row e' 1 (xs ++ (btI sb).map by8)) (v := v') (own' := fun g => own g ∨ v'.ownBlock = some g) (by simpa [z1r, Blk.says] using hf) hE
   (fun g hg => by
     rcases hg with hg | hg
     · exact Nat.lt_of_lt_of_le (hr.heap.lt g hg) hgrow.size
     · exact (hown'.lt g hg).2)
   (fun q c hq hl hqd g hg => by
     rw [z2f] at hq
     by_cases hqm : q = (0, ms)
     · rw [if_pos hqm] at hq; simp at hq; subst hq; cases hl
     · rw [if_neg hqm] at hq
       have hog := (hr.heap.blk q c hq).block_lt hl hg
       have hne : (β (0, ms)).ownBlock ≠ some g := fun e => hr.heap.inj q (0, ms) c _ hq hlook hl rfl hqm g hg (by rw [hblk0]; exact e)
       refine ⟨hgrow.block g (hr.heap.lt g hog) (fun e => hne e.symm), .inl hog, fun _ e => ?_⟩
       rw [hblk] at e
       rcases hwhere with h | h
       · rw [h] at e; exact hne e
       · rw [h] at e; simp at e; have := hr.heap.lt g hog; omega)
   (.row v' e' 1 _ _ (fun g hg => .inr hg) hk0 (by rw [List.length_append, List.length_map, zee]; exact hown') hrow)
  refine ⟨_, v', w', z69 β d v', _, ?_, .inl rfl, ?_, hE, z3r _ _ _⟩
  · simp [execOp, resolve, invoke, builtin, hv, hyv, hrun]
  · have hp := PR.ref (β := z69 β d v') (w := w') (own := fun g => own g ∨ v'.ownBlock = some g) (0, d)
    rw [z2c] at hp
    exact hin.put (dst := some d) (p := .ref (0, d)) (by simpa [St.fits] using hd) hp
theorem zil {t tu e : TypeId} {ti tui te : TI} [ht : z1d P t ti] [hu : z1d P tu tui] [he : z1d P e te] {x y : Operand} {ms : Nat} {sb : ByteArray} {q : List Int} (hev : St.evs ⟨n, tm, hp, up⟩ [x, y] = some [.ref (0, ms), S sb]) (hb : look hp ms = some (.row e 1 (q.map by8)))
  (hk : ti.kind = .slice e) (hku : tui.kind = .str) (hs1 : te.size = 1) (hb1 : te.bytes = 1) (hz : (P.info? e).bind (·.zero) = some (Value.int .u8 0)) (hfr : (z1r d hp && z1t d tm) = true) (hd : d < n) (hq : q.length + sb.size ≤ 137438953472)
  (h : Ops P f R all l k ⟨n, (d, .ref (0, d)) :: tm, (d, .row e 1 ((q ++ btI sb).map by8)) :: (ms, .gone) :: hp, up⟩) :
  Op1 P f R all ⟨some d, .call ⟨.builtin .append, #[x, y], #[t, tu]⟩, ty, pos, aft, gd⟩ l k ⟨n, tm, hp, up⟩ := by
 obtain ⟨hx, hy, _⟩ := evE (xs := [(x, .ref (0, ms)), (y, S sb)]) hev
 refine z0j (zc2 (P := P) (s := ⟨n, tm, hp, up⟩) (m := (0, ms)) ht hu he hx hy hb rfl hk hku rfl rfl hs1 hb1 hz (by simpa using hq) hfr hd) ?_
 rw [List.map_append] at h; exact h
end Go.Ab
namespace Go.Ab
variable {P : Program} {f : FuncId} {R : z3s} {k : List Item} {all : Array Oper} {o : Oper} {l : List Oper}
variable {n : Nat} {tm : List (Nat × PV)} {hp : Hp} {up : Hf} {d : Nat} {ty : TypeId} {pos : String} {aft : Array Edge} {gd : Option (Nat × Bool)} {op : Op} {p : PV}
/-- contracts of functions that hand rows to the caller under the names (0, a) and (0, b), which held nothing -/
def zad (P : Program) (g : FuncId) (args : List PV) (bs hs : List (Nm × Blk)) (p : PV) (a b : Nat) : Prop :=
 ∀ H : Hf, (∀ q ∈ bs, H q.1.1 q.1.2 = some q.2) → H 0 a = some .gone → H 0 b = some .gone → Quiet H a → Quiet H b → z99 P g args H ⟨fun r H' => r = .v p ∧ H' = zf4 H hs, fun n => n = (0, a) ∨ n = (0, b), none⟩
theorem z8a {g : FuncId} {args : List PV} {bs hs : List (Nm × Blk)} {p : PV} {a b : Nat} (h : ∀ H : Hf, (∀ q ∈ bs, H q.1.1 q.1.2 = some q.2) → H 0 a = some .gone → H 0 b = some .gone → Quiet H a → Quiet H b → z99 P g args H ⟨fun r H' => r = .v p ∧ H' = zf4 H hs, fun n => n = (0, a) ∨ n = (0, b), none⟩) : zad P g args bs hs p a b := h
/-- the names m1 and m2 are written anyhow -/
def zs0 (m1 m2 : Nat) (hs : List (Nm × Blk)) : Bool := (hs.any fun q => q.1 == (0, m1)) && (hs.any fun q => q.1 == (0, m2))
theorem zek {m : Nm} {z : Blk} : ∀ {hs : List (Nm × Blk)} {H : Hf}, (hs.any fun q => q.1 == m) = true → zf4 (upd H m z) hs = zf4 H hs
 | [], H, h => by simp at h
 | (x, b) :: r, H, h => by
  rw [zf4, zf4]
  by_cases e : x = m
  · subst e; rw [z7d]
  · rw [List.any_cons, Bool.or_eq_true] at h
    rcases h with h | h
    · simp at h; exact absurd h e
    · rw [zaq (Ne.symm e), zek h]
theorem zo3 {m : Nat} : ∀ {hp : Hp} {t : Nat} {b : Blk}, z1r m hp = true → look hp t = some b → b.says (0, m) = false := by
 intro hp
 induction hp with
 | nil => intro t b _ h; simp [look] at h
 | cons q r ih =>
  obtain ⟨kk, c⟩ := q
  intro t b hf h
  simp only [z1r, Bool.and_eq_true, Bool.not_eq_true'] at hf
  simp only [look] at h
  split at h
  · simp at h; subst h; simp_all
  · exact ih (by simp_all) h
theorem zbm {m : Nat} : ∀ {tm : List (Nat × PV)} {t : Nat} {q : PV}, z1t m tm = true → look tm t = some q → q.says (0, m) = false := by
 intro tm
 induction tm with
 | nil => intro t b _ h; simp [look] at h
 | cons q r ih =>
  obtain ⟨kk, c⟩ := q
  intro t b hf h
  simp only [z1t, Bool.and_eq_true, Bool.not_eq_true'] at hf
  simp only [look] at h
  split at h
  · simp at h; subst h; simp_all
  · exact ih (by simp_all) h
/-- what two new names leave as it was -/
theorem PR.re2 {β β' : Nm → Value} {w : World} {own : Nat → Prop} {m1 m2 : Nat} (hβ : ∀ x, ¬ (x = (0, m1) ∨ x = (0, m2)) → β' x = β x) {q : PV} {v : Value} (h : PR β w own q v) (h1 : q.says (0, m1) = false) (h2 : q.says (0, m2) = false) : PR β' w own q v := by
 let γ : Nm → Value := fun m => if m = (0, m1) then β m else β' m
 have g1 : ∀ q, q ≠ (0, m2) → γ q = β q := fun q hq => by
  by_cases e : q = (0, m1)
  · simp [γ, e]
  · simp only [γ, e, if_false]
    exact hβ q (fun h => h.elim e hq)
 have g2 : ∀ q, q ≠ (0, m1) → β' q = γ q := fun q hq => by simp [γ, hq]
 exact (h.reβ (0, m2) g1 h2).reβ (0, m1) g2 h1
theorem zc4 {i : Nat} {s : St} {g : FuncId} {args : List Operand} {ps : List PV} {ats : Array TypeId} {bs hs : List (Nm × Blk)} {m1 m2 : Nat} (ho : all[i]? = some ⟨some d, .call ⟨.value (.func g), args.toArray, ats⟩, ty, pos, aft, gd⟩)
  (hw : ∀ β own a w, Rep s β own a w → Region.wanted ⟨some d, .call ⟨.value (.func g), args.toArray, ats⟩, ty, pos, aft, gd⟩ (yielded all a.tmps) = true)
  (hev : s.evs args = some ps) (hsp : zad P g ps bs hs p m1 m2) (hb : ∀ q ∈ bs, push s.hp s.up q.1.1 q.1.2 = some q.2) (hbn : (bs.all fun q => q.1 != (0, m1) && q.1 != (0, m2)) = true) (hm : m1 ≠ m2)
  (hf1 : (z1r m1 s.hp && z1t m1 s.tm) = true) (hf2 : (z1r m2 s.hp && z1t m2 s.tm) = true) (hcov : zs0 m1 m2 hs = true) (hd : d < s.n) :
  zn3 P f R all k i s (s.app ⟨[], [], [], [(d, p)], hs⟩) := by
 intro is h β own a w hrep b hb' hk hn cs
 simp only [Bool.and_eq_true] at hf1 hf2
 simp only [zs0, Bool.and_eq_true] at hcov
 rw [List.all_eq_true] at hbn
 have hr1 : HR (upd (upd (push s.hp s.up) (0, m1) .gone) (0, m2) .gone) β own w := (hrep.heap.drop (0, m1)).drop (0, m2)
 have hq : ∀ x, z1r x s.hp = true → Quiet (upd (upd (push s.hp s.up) (0, m1) .gone) (0, m2) .gone) x := fun x hx => Quiet.upd (Quiet.upd (fun t c hc => zo3 hx hc) rfl) rfl
 have hsp' := hsp (upd (upd (push s.hp s.up) (0, m1) .gone) (0, m2) .gone) (fun q hqb => by
  have := hbn q hqb
  simp only [Bool.and_eq_true, bne_iff_ne, ne_eq] at this
  exact z0v (z0v (hb q hqb) (fun e => this.1 (Prod.ext e.1 e.2))) (fun e => this.2 (Prod.ext e.1 e.2))) (z0v (z2i _ (0, m1) _) (by simp [hm])) (z2i _ (0, m2) _) (hq m1 hf1.1) (hq m2 hf2.1)
 obtain ⟨vals, hrun, hargs⟩ := z7q (first := []) (cap := []) (fo := .func g) hrep rfl hev hsp'.plain (dst := some d) (ats := ats) (ty := ty) (pos := pos) (aft := aft) (gd := gd)
 obtain ⟨e, w', fr, ⟨v, r, H, own', β', rfl, ⟨rfl, rfl⟩, hrv, hheap, hext, hβ⟩, hsteps, _, hleave⟩ := hsp'.run β own w vals hr1 (by simpa using hargs) (am b a (.inRegion all (i :: is) :: k) :: cs)
 cases hrv with
 | v _ _ hpv =>
  have hr' : Rep (s.setBs hs) β' own' a w' := by
   refine ⟨?_, hrep.defers, fun t q hq => ?_, ?_⟩
   · rw [(z3c hs s).2.1]; exact hrep.size
   · rw [(z3c hs s).1] at hq
     exact ((hrep.tm t q hq).mono hext).re2 hβ (zbm hf1.2 hq) (zbm hf2.2 hq)
   · rw [z9m]
     rw [zek hcov.2, zek hcov.1] at hheap
     exact hheap
  have hr2 := hr'.put (dst := some d) (p := p) (v := v) (by simp [St.fits, (z3c hs s).2.1, hd]) hpv
  have hout : z5s β' = z5s β := funext fun m => hβ _ (by simp)
  have hn' : z8y R (z5s β') b := by rw [hout]; exact hn
  have := h β' own' _ w' hr2 b hb' hk hn' cs
  rw [hout] at this
  exact (this.ext hext).of_steps (zgn ho (hw β own a w hrep) hrun hsteps hleave)
theorem zu4 {id : Nat} {ops : List Oper} {s0 : St} {done : List Eff} {g : FuncId} {args : List Operand} {ps : List PV} {ats : Array TypeId} {bs hs : List (Nm × Blk)} {m1 m2 : Nat} {gr : List (Nat × PV)} {s' : St} (hsp : zad P g ps bs hs p m1 m2) (hg : GOK ops.toArray gd gr ⟨n, tm, hp, up⟩) (hev : St.evs ⟨n, tm, hp, up⟩ args = some ps)
  (hb : BkE ⟨n, tm, hp, up⟩ bs) (hbn : (bs.all fun q => q.1 != (0, m1) && q.1 != (0, m2)) = true) (hm : m1 ≠ m2) (hf1 : (z1r m1 hp && z1t m1 tm) = true) (hf2 : (z1r m2 hp && z1t m2 tm) = true) (hcov : zs0 m1 m2 hs = true) (hd : d < n) (hs' : St.app ⟨n, tm, hp, up⟩ ⟨[], [], [], [(d, p)], hs⟩ = s')
  (h : Tr P f R id ops k s0 (done ++ [⟨gr ++ rd (args.zip ps), bs, [m1, m2], [(d, p)], hs⟩]) s' l) : Tr P f R id ops k s0 done ⟨n, tm, hp, up⟩ (⟨some d, .call ⟨.value (.func g), args.toArray, ats⟩, ty, pos, aft, gd⟩ :: l) := by
 replace hb := bkE hb
 obtain ⟨hz1, hz2⟩ := z7r hev
 refine zew (e := ⟨gr ++ rd (args.zip ps), bs, [m1, m2], [(d, p)], hs⟩) (fun i hi s1 hn hs1 => ?_) ⟨fun q hq => ?_, z86 hb, fun x hx => by
  simp only [List.mem_cons, List.not_mem_nil, or_false] at hx
  rcases hx with rfl | rfl
  · exact hf1
  · exact hf2⟩ hs' h
 · have hev1 : s1.evs args = some ps := hz2 s1 (z63 hz1 fun q hq => hs1.ins q (by simp [hq]))
   exact zc4 hi (fun β own a w hr => hg.wanted (fun q hq => hs1.ins q (by simp [hq])) rfl hr) hev1 hsp (fun q hq => hs1.pre q hq) hbn hm (hs1.free m1 (by simp)) (hs1.free m2 (by simp)) hcov (by rw [hn]; exact hd)
 · simp only [List.mem_append] at hq
   rcases hq with hq | hq
   · exact hg.agrees q hq
   · exact z4f hz1 q hq
theorem zsy {g : FuncId} {args : List Operand} {ps : List PV} {ats : Array TypeId} {bs hs : List (Nm × Blk)} {m1 m2 : Nat} {s' : St} (hsp : zad P g ps bs hs p m1 m2) (hev : St.evs ⟨n, tm, hp, up⟩ args = some ps)
  (hb : BkE ⟨n, tm, hp, up⟩ bs) (hbn : (bs.all fun q => q.1 != (0, m1) && q.1 != (0, m2)) = true) (hm : m1 ≠ m2) (hf1 : (z1r m1 hp && z1t m1 tm) = true) (hf2 : (z1r m2 hp && z1t m2 tm) = true) (hcov : zs0 m1 m2 hs = true) (hd : d < n) (hs' : St.app ⟨n, tm, hp, up⟩ ⟨[], [], [], [(d, p)], hs⟩ = s') (h : Ops P f R all l k s') :
  Op1 P f R all ⟨some d, .call ⟨.value (.func g), args.toArray, ats⟩, ty, pos, aft, none⟩ l k ⟨n, tm, hp, up⟩ := by
 intro i rest ho hrest
 have := zc4 (s := ⟨n, tm, hp, up⟩) (f := f) (R := R) (k := k) (gd := none) (pos := pos) (aft := aft) (ty := ty) (ats := ats) ho (fun _ _ _ _ _ => rfl) hev hsp (fun q hq => z86 (bkE hb) q hq) hbn hm hf1 hf2 hcov hd rest
 intro β own a w hrep hw
 rw [hs'] at this
 exact this (h rest hrest) β own a w hrep
section
variable {g : FuncId} {args : List Operand} {ps : List PV} {ats : Array TypeId} {bs : List (Nm × Blk)} {m1 m2 a0 a1 a2 a3 a4 a5 : Nat} {x0 x1 x2 x3 x4 x5 : Blk}
/-- the same, the rows bearing their old names again -/
theorem z81 {e1 e2 : TypeId} {k1 k2 : Nat} {r1 r2 : List (List D)} (hsp : zad P g ps bs [((0, a0), x0), ((0, a1), x1), ((0, a2), x2), ((0, m1), .row e1 k1 r1), ((0, m2), .row e2 k2 r2), ((0, a0), x5)] p m1 m2) (hev : St.evs ⟨n, tm, hp, up⟩ args = some ps)
  (hb : BkE ⟨n, tm, hp, up⟩ bs) (hbn : (bs.all fun q => q.1 != (0, m1) && q.1 != (0, m2)) = true) (hm : m1 ≠ m2) (hf1 : (z1r m1 hp && z1t m1 tm) = true) (hf2 : (z1r m2 hp && z1t m2 tm) = true) (hcov : zs0 m1 m2 [((0, a0), x0), ((0, a1), x1), ((0, a2), x2), ((0, m1), .row e1 k1 r1), ((0, m2), .row e2 k2 r2), ((0, a0), x5)] = true) (hd : d < n)
  (hl1 : look ((a0, x5) :: (m2, .row e2 k2 r2) :: (m1, .row e1 k1 r1) :: (a2, x2) :: (a1, x1) :: (a0, x0) :: hp) m1 = some (.row e1 k1 r1)) (hc1 : (!(m1 == a1) && !(Blk.row e1 k1 r1).says (0, a1)) = true)
  (hl2 : look ((a1, .row e1 k1 r1) :: (m1, .gone) :: zcf m1 a1 ((a0, x5) :: (m2, .row e2 k2 r2) :: (m1, .row e1 k1 r1) :: (a2, x2) :: (a1, x1) :: (a0, x0) :: hp)) m2 = some (.row e2 k2 r2)) (hc2 : (!(m2 == a2) && !(Blk.row e2 k2 r2).says (0, a2)) = true)
  (h : Ops P f R all l k ⟨n, zae m2 a2 (zae m1 a1 ((d, p) :: tm)), (a2, .row e2 k2 r2) :: (m2, .gone) :: zcf m2 a2 ((a1, .row e1 k1 r1) :: (m1, .gone) :: zcf m1 a1 ((a0, x5) :: (m2, .row e2 k2 r2) :: (m1, .row e1 k1 r1) :: (a2, x2) :: (a1, x1) :: (a0, x0) :: hp)), up⟩) :
  Op1 P f R all ⟨some d, .call ⟨.value (.func g), args.toArray, ats⟩, ty, pos, aft, none⟩ l k ⟨n, tm, hp, up⟩ := by
 refine zsy hsp hev hb hbn hm hf1 hf2 hcov hd rfl ?_
 refine zpl m1 a1 (q := .row e1 k1 r1) hl1 hc1 ?_
 exact zpl m2 a2 (q := .row e2 k2 r2) hl2 hc2 h
theorem zpk {id : Nat} {ops : List Oper} {s0 : St} {done : List Eff} {gr : List (Nat × PV)} (hsp : zad P g ps bs [((0, a0), x0), ((0, a1), x1), ((0, a2), x2), ((0, a3), x3), ((0, a4), x4), ((0, a5), x5)] p m1 m2) (hg : GOK ops.toArray gd gr ⟨n, tm, hp, up⟩) (hev : St.evs ⟨n, tm, hp, up⟩ args = some ps)
  (hb : BkE ⟨n, tm, hp, up⟩ bs) (hbn : (bs.all fun q => q.1 != (0, m1) && q.1 != (0, m2)) = true) (hm : m1 ≠ m2) (hf1 : (z1r m1 hp && z1t m1 tm) = true) (hf2 : (z1r m2 hp && z1t m2 tm) = true) (hcov : zs0 m1 m2 [((0, a0), x0), ((0, a1), x1), ((0, a2), x2), ((0, a3), x3), ((0, a4), x4), ((0, a5), x5)] = true) (hd : d < n)
  (h : Tr P f R id ops k s0 (done ++ [⟨gr ++ rd (args.zip ps), bs, [m1, m2], [(d, p)], [((0, a0), x0), ((0, a1), x1), ((0, a2), x2), ((0, a3), x3), ((0, a4), x4), ((0, a5), x5)]⟩]) ⟨n, (d, p) :: tm, (a5, x5) :: (a4, x4) :: (a3, x3) :: (a2, x2) :: (a1, x1) :: (a0, x0) :: hp, up⟩ l) : Tr P f R id ops k s0 done ⟨n, tm, hp, up⟩ (⟨some d, .call ⟨.value (.func g), args.toArray, ats⟩, ty, pos, aft, gd⟩ :: l) :=
 zu4 hsp hg hev hb hbn hm hf1 hf2 hcov hd rfl h
/-- a call that reads one own block and changes another one -/
theorem zg9 {id : Nat} {ops : List Oper} {s0 : St} {done : List Eff} {gr : List (Nat × PV)} {b1 b2 b' : Blk} (hsp : z36 P g ps [((0, m1), b1), ((0, m2), b2)] [((0, m2), b')] p) (hg : GOK ops.toArray gd gr ⟨n, tm, hp, up⟩) (hev : St.evs ⟨n, tm, hp, up⟩ args = some ps)
  (h1 : look hp m1 = some b1) (h2 : look hp m2 = some b2) (hd : d < n) (h : Tr P f R id ops k s0 (done ++ [⟨gr ++ rd (args.zip ps), [((0, m1), b1), ((0, m2), b2)], [], [(d, p)], [((0, m2), b')]⟩]) ⟨n, (d, p) :: tm, (m2, b') :: hp, up⟩ l) :
  Tr P f R id ops k s0 done ⟨n, tm, hp, up⟩ (⟨some d, .call ⟨.value (.func g), args.toArray, ats⟩, ty, pos, aft, gd⟩ :: l) :=
 zik hsp hg hev (by simp [BkE, z5c, push, h1, h2]) hd rfl h
end
end Go.Ab
namespace Go.Ab
theorem z1n.at {P : Program} {g : FuncId} {args : List PV} {p : PV} (h : z1n P g args p) (H : Hf) : Spec P g args H (fun r H' => r = .v p ∧ H' = H) := h H
end Go.Ab
namespace Go.Ab
variable {P : Program} {f : FuncId} {R : z3s} {k : List Item} {n : Nat} {tm tm0 : List (Nat × PV)} {hp hp0 : Hp} {up up0 : Hf}
/-- a goal that is left as it is for now -/
structure Stop (p : Prop) : Prop where
 go : p
theorem zaa {A B : Code} {st : St} (h : Stop (Run P f R (.code (.seq A B) :: k) st)) : Run P f R (.code (.seq A B) :: k) st := h.go
theorem z89 {p : Prop} (h : p) : Stop p := ⟨h⟩
/-- what follows a part of the code, from one state for all its ways -/
theorem zuw {A B : Code} {st st0 : St} (h1 : Run P f R (.code B :: k) st0) (h2 : Run P f R (.code B :: k) st0 → Run P f R (.code A :: .code B :: k) st) : Run P f R (.code (.seq A B) :: k) st := z0h (h2 h1)
theorem zif (D : Nat) (b0 : Bool) {X : Bool} (hl : look tm D = some (B X)) (hX : X = b0) (h : Run P f R k ⟨n, (D, B b0) :: tm, hp, up⟩) : Run P f R k ⟨n, tm, hp, up⟩ := by
 subst hX
 refine Run.le (s := ⟨n, (D, B X) :: tm, hp, up⟩) (fun β own ac w hr => ⟨β, rfl, hr.size, hr.defers, fun t p hp' => ?_, hr.heap⟩) h
 simp only [look] at hp'
 split at hp'
 · rename_i e; subst e; simp at hp'; subst hp'; exact hr.tm _ _ hl
 · exact hr.tm t p hp'
end Go.Ab
namespace Go.Ab
open Go.ChangeShapes Go.WideShapes Go.ChangeAt Go.RowKit
variable {H : Type} {enc : TypeId × Value → H} {P : Program}
/-- no type of G is that of a byte -/
def zsb (P : Program) (G : List TypeId) : Bool := G.all fun t => match P.underlying t with
 | some (.int .u8) => false
 | _ => true
theorem Sh.zsb {G : List TypeId} {t : TypeId} {ds : List D} (h : Sh P t ds) (hG : zg0 P G = true) (hN : Ab.zsb P G = true) (ht : t ∈ G) : ∀ x ∈ ds, ∀ z, x ≠ .lit (.int .u8 z) := by
 induction h with
 | int t k z hu h1 h2 =>
  intro x hx z' e
  simp only [List.mem_singleton] at hx
  subst hx
  simp only [D.lit.injEq, Value.int.injEq] at e
  have := List.all_eq_true.1 hN t ht
  rw [hu, e.1] at this
  simp at this
 | bool t b hu => intro x hx z' e; simp only [List.mem_singleton] at hx; subst hx; simp at e
 | str t s hu hs => intro x hx z' e; simp only [List.mem_singleton] at hx; subst hx; simp at e
 | slice t e' xs hu hl hx ih => intro x hx z' e; simp only [List.mem_singleton] at hx; subst hx; simp at e
 | struct t fs parts hu hl hp ih =>
  intro x hx z' e
  rw [List.mem_flatten] at hx
  obtain ⟨p, hp1, hp2⟩ := hx
  obtain ⟨i, hi⟩ := List.getElem?_of_mem hp1
  have hil : i < fs.length := by have := (List.getElem?_eq_some_iff.1 hi).1; omega
  have hf : fs[i]? = some fs[i] := List.getElem?_eq_getElem hil
  have hg := List.all_eq_true.1 hG t ht
  rw [hu] at hg
  simp only [Bool.and_eq_true] at hg
  have hm : fs[i].type ∈ G := List.contains_iff_mem.1 (List.all_eq_true.1 hg.1 fs[i] (by simp))
  exact ih i fs[i] p hf hi hm x hp2 z' e
theorem zt0 {W : World} {own : Nat → Prop} (hsep : ∀ g o v, own g → W.cell? ⟨g, o, none⟩ = some v → ∃ z, v = .int .u8 z) {base : Nat} {sp : Nat → Bool} {held : Bool} {G : List TypeId} (hG : zg0 P G = true) (hN : zsb P G = true) : ∀ (fuel : Nat) (t : TypeId) (cs : List Value) (x : DataW H × List MemPlace), t ∈ G → DataW.trod enc P W base sp held fuel t cs = some x →
  ∃ ds, Sh P t ds ∧ CD W own ds cs := by
 intro fuel
 induction fuel using Nat.strongRecOn with
 | _ fuel ih =>
 intro t cs x ht h
 have hg := List.all_eq_true.1 hG t ht
 cases hu : P.underlying t with
 | none => rw [hu] at hg; simp at hg
 | some u =>
  rw [hu] at hg
  cases u with
  | bool =>
   obtain ⟨b, rfl, _⟩ := DataW.trod_bool hu h
   exact ⟨_, .bool t b hu, .one (.lit _ rfl) rfl⟩
  | int k =>
   obtain ⟨z, rfl, _, hw⟩ := DataW.trod_int hu h
   simp only [Lit.wf, Bool.and_eq_true, decide_eq_true_eq] at hw
   exact ⟨_, .int t k z hu hw.1 hw.2, .one (.lit _ rfl) rfl⟩
  | string =>
   obtain ⟨s, rfl, _, hs⟩ := DataW.trod_string hu h
   exact ⟨_, .str t s hu hs, .one (.lit _ rfl) rfl⟩
  | slice e =>
   simp only [Bool.and_eq_true, decide_eq_true_eq] at hg
   obtain ⟨he, hc0⟩ := hg
   have he : e ∈ G := List.contains_iff_mem.1 he
   rcases DataW.trod_slice hu h with ⟨rfl, _⟩ | ⟨a, len, cap, elems, rest, n, hfu, rfl, _, hb, hl, hm, hlen, hel, _⟩
   · exact ⟨_, .slice t e [] hu (by simp) (by simp), .one (.nil none 0) rfl⟩
   · by_cases h0 : len = 0
     · subst h0
       exact ⟨_, .slice t e [] hu (by simp) (by simp), .one (.nil _ _) rfl⟩
     have each : ∀ i, i < len → ∃ cs' : List Value, W.cells? base (a.add (i * P.cellsOf e)) (P.cellsOf e) = some cs' ∧ ∃ ds, Sh P e ds ∧ CD W own ds cs' := fun i hi => by
      have h1 := hel i hi
      rw [List.getElem?_eq_getElem (by omega)] at h1
      obtain ⟨cs', h2, h3⟩ := Option.bind_eq_some_iff.1 h1
      exact ⟨cs', h2, ih n (by omega) e cs' _ he h3⟩
     obtain ⟨r, hr1, hr2⟩ := z8e (p := fun i (_ : Nat) (b : List D × List Value) => W.cells? base (a.add (i * P.cellsOf e)) (P.cellsOf e) = some b.2 ∧ Sh P e b.1 ∧ CD W own b.1 b.2) (List.range len) 0 fun i q hq => by
      have : i < len := by have := (List.getElem?_eq_some_iff.1 hq).1; simpa using this
      obtain ⟨cs', h2, ds, h3, h4⟩ := each i this
      exact ⟨(ds, cs'), by simpa using h2, h3, h4⟩
     rw [List.length_range] at hr1
     have hr : ∀ (i : Nat) (b : List D × List Value), r[i]? = some b → W.cells? base (a.add (i * P.cellsOf e)) (P.cellsOf e) = some b.2 ∧ Sh P e b.1 ∧ CD W own b.1 b.2 := fun i b hb => by
      have hi : i < len := by have := (List.getElem?_eq_some_iff.1 hb).1; omega
      have := hr2 i i b (List.getElem?_range hi) hb
      simpa using this
     obtain ⟨g, o, spn⟩ := a
     obtain ⟨b0, hb0⟩ : ∃ b0, r[0]? = some b0 := ⟨_, List.getElem?_eq_getElem (by omega)⟩
     have hc := (World.cells?_some (hr 0 b0 hb0).1).2.2 0 hc0
     have hlen0 := (World.cells?_some (hr 0 b0 hb0).1).2.1
     simp only [Nat.zero_mul, Addr.add, if_true, World.cell?] at hc
     rw [List.getElem?_eq_getElem (by omega)] at hc
     have hg' : g < W.heap.size := by
      cases hq : W.heap[g]? with
      | none => rw [hq] at hc; simp at hc
      | some q => exact (Array.getElem?_eq_some_iff.1 hq).1
     have hsp : spn = none := by
      cases spn with
      | none => rfl
      | some q =>
       cases hq : W.heap[g]? with
       | none => rw [hq] at hc; simp at hc
       | some b => rw [hq] at hc; cases b <;> simp at hc
     subst hsp
     have hxl : (r.map (·.1)).length = len := by simp [hr1]
     refine ⟨[.slice (r.map (·.1))], .slice t e _ hu (by rw [hxl]; omega) (fun x hx => ?_), .one ?_ rfl⟩
     · simp only [List.mem_map] at hx
       obtain ⟨b, hb, rfl⟩ := hx
       obtain ⟨i, hi⟩ := List.getElem?_of_mem hb
       exact (hr i b hi).2.1
     · have := DR.slice (w := W) (own := own) (r.map (·.1)) g o cap (P.cellsOf e) (fun i j => ((r.getD i ([], [])).2).getD j undef) (by rw [hxl]; exact hl) (fun hown => by
         have q := hr 0 b0 hb0
         have q1 := (World.cells?_some q.1).2.2 0 hc0
         have q0 := (World.cells?_some q.1).2.1
         obtain ⟨v0, hv0⟩ : ∃ v0, b0.2[0]? = some v0 := ⟨_, List.getElem?_eq_getElem (by omega)⟩
         have hd0 : 0 < b0.1.length := by rw [q.2.2.1]; omega
         obtain ⟨x0, hx0⟩ : ∃ x0, b0.1[0]? = some x0 := ⟨_, List.getElem?_eq_getElem hd0⟩
         have hdr := q.2.2.2.2 0 x0 v0 hx0 hv0
         rw [hv0] at q1
         simp only [Nat.zero_mul, Addr.add] at q1
         obtain ⟨z, rfl⟩ := hsep g _ v0 hown q1
         exact (q.2.1.zsb hG hN he x0 (List.mem_of_getElem? hx0) z) (by cases hdr with | lit _ _ => rfl)) hg'
        (by
          intro x hx
          simp only [List.mem_map] at hx
          obtain ⟨b, hb, rfl⟩ := hx
          obtain ⟨i, hi⟩ := List.getElem?_of_mem hb
          rw [(hr i b hi).2.2.1]; exact (World.cells?_some (hr i b hi).1).2.1)
        (by
          intro i hi j hj
          rw [hxl] at hi
          obtain ⟨b, hb⟩ : ∃ b, r[i]? = some b := ⟨_, List.getElem?_eq_getElem (by omega)⟩
          have hg1 : r.getD i ([], []) = b := by rw [List.getD, hb]; rfl
          obtain ⟨k1, k2, k3⟩ := hr i b hb
          obtain ⟨_, q2, q3⟩ := World.cells?_some k1
          have := q3 j hj
          rw [Go.Ab.z6n, Go.Ab.z6n, Nat.add_assoc] at this
          rw [hg1]
          obtain ⟨v, hv⟩ : ∃ v, b.2[j]? = some v := ⟨_, List.getElem?_eq_getElem (by omega)⟩
          have hgv : b.2.getD j undef = v := by rw [List.getD, hv]; rfl
          rw [hgv]
          exact ⟨this.trans hv, k3.2.1 v (List.mem_of_getElem? hv)⟩)
        (by
          intro i x hx j y hy
          rw [List.getElem?_map] at hx
          cases hb : r[i]? with
          | none => rw [hb] at hx; simp at hx
          | some b =>
           rw [hb] at hx; simp at hx; subst hx
           have hg1 : r.getD i ([], []) = b := by rw [List.getD, hb]; rfl
           obtain ⟨k1, k2, k3⟩ := hr i b hb
           have hj : j < b.2.length := by rw [← k3.1]; exact (List.getElem?_eq_some_iff.1 hy).1
           obtain ⟨v, hv⟩ : ∃ v, b.2[j]? = some v := ⟨_, List.getElem?_eq_getElem hj⟩
           have hgv : b.2.getD j undef = v := by rw [List.getD, hv]; rfl
           rw [hg1, hgv]
           exact k3.2.2 j y v hy hv)
       rw [hxl] at this
       exact this
  | struct fs =>
   simp only [Bool.and_eq_true, beq_iff_eq] at hg
   obtain ⟨hfs, hlay⟩ := hg
   obtain ⟨xs, n, hfu, _, hcl, hxl, hf⟩ := DataW.trod_struct hu h
   obtain ⟨r, hr1, hr2⟩ := z8e (p := fun i (f : Field) (b : List D) => Sh P f.type b ∧ CD W own b ((cs.drop f.offset).take (P.cellsOf f.type))) fs.toList 0 fun i f hif => by
    have h1 := hf i f (by simpa using hif)
    have hi : i < fs.size := by have := (List.getElem?_eq_some_iff.1 hif).1; simpa using this
    rw [List.getElem?_eq_getElem (by omega)] at h1
    have hfg : f.type ∈ G := List.contains_iff_mem.1 (List.all_eq_true.1 hfs f (List.mem_of_getElem? hif))
    obtain ⟨ds, h2, h3⟩ := ih n (by omega) f.type _ _ hfg h1
    exact ⟨ds, h2, h3⟩
   obtain ⟨e1, _⟩ := zl7 cs fs.toList 0 _ hlay (by omega)
   rw [List.drop_zero, Nat.sub_zero, ← hcl, List.take_length] at e1
   refine ⟨r.flatten, .struct t fs.toList r (by simpa using hu) hr1 (fun i f x h1 h2 => (hr2 i f x h1 h2).1), ?_⟩
   rw [← e1]
   refine zkp r _ (by simp [hr1]) fun i a b ha hb => ?_
   rw [List.getElem?_map] at hb
   cases hif : fs.toList[i]? with
   | none => rw [hif] at hb; simp at hb
   | some f => rw [hif] at hb; simp at hb; subst hb; exact (hr2 i f a hif ha).2
  | _ => simp at hg
theorem zmu {W : World} {own : Nat → Prop} (hsep : ∀ g o v, own g → W.cell? ⟨g, o, none⟩ = some v → ∃ z, v = .int .u8 z) {t : TypeId} {v : Value} {d : DataW H} {p : List MemPlace} {r : Reach} {b0 : Nat} {G : List TypeId} (hG : zg0 P G = true) (hN : zsb P G = true) (ht : G.contains t = true) (hval : Value.okWide P W r b0 t v)
  (h : DataW.Trod enc P W 0 (fun _ => true) true t v d p) : ∃ ds, Sh P t ds ∧ ((∃ fs, P.underlying t = some (.struct fs)) → DR W own (.agg ds) v) ∧ (∀ x, ds = [x] → (∀ fs, P.underlying t ≠ some (.struct fs)) → DR W own x v) := by
 obtain ⟨fuel, h⟩ := h
 obtain ⟨ds, h1, h2⟩ := zt0 hsep hG hN fuel t _ _ (List.contains_iff_mem.1 ht) h
 refine ⟨ds, h1, fun ⟨fs, hs⟩ => ?_, fun x hx hn => ?_⟩
 · obtain ⟨cs, rfl, _⟩ := okWide_struct hs hval
   simp only [Value.cells] at h2
   have := DR.agg ds cs.toList h2.1 h2.2.1 h2.2.2
   simpa using this
 · subst hx
   have hc : v.cells.toList = [v] := by
    have hg := List.all_eq_true.1 hG t (List.contains_iff_mem.1 ht)
    cases hu : P.underlying t with
    | none => rw [hu] at hg; simp at hg
    | some u =>
     rw [hu] at hg
     cases u with
     | bool => obtain ⟨b, rfl⟩ := okWide_bool hu hval; rfl
     | int k => obtain ⟨b, rfl⟩ := okWide_int hu hval; rfl
     | string => obtain ⟨b, rfl⟩ := okWide_string hu hval; rfl
     | slice e => obtain ⟨a, l, c, rfl⟩ := okWide_slice hu hval; rfl
     | struct fs => exact absurd hu (hn fs)
     | _ => simp at hg
   rw [hc] at h2
   exact h2.2.2 0 x v rfl rfl
theorem zhr {f : FuncId} {ps : List PV} {vs : List Value} {o0 o1 : Obj} (h : z36 P f ps [((0, 700), .glob 0 o0), ((0, 701), .glob 1 o1)] [] (B true)) (W : World) (h0 : W.heap[0]? = some o0) (h1 : W.heap[1]? = some o1) (hd0 : ∀ x, o0 ≠ .deferred x) (hd1 : ∀ x, o1 ≠ .deferred x)
  (hl : ps.length = vs.length) (ha : ∀ (β : Nm → Value) (j : Nat) (p : PV) (v : Value), ps[j]? = some p → vs[j]? = some v → PR β W (fun g => g = 0 ∨ g = 1) p v) :
  Calls P f vs.toArray W fun e W' => e = .returned (.bool true) ∧ ∃ own', Ext W (fun _ => False) W' own' := by
 let β : Nm → Value := fun m => if m = (0, 700) then .pointer (some ⟨0, 0, none⟩) else if m = (0, 701) then .pointer (some ⟨1, 0, none⟩) else undef
 let H : Hf := fun d s => if d = 0 ∧ s = 700 then some (.glob 0 o0) else if d = 0 ∧ s = 701 then some (.glob 1 o1) else none
 have hlook : ∀ n b, z1f H n = some b → (n = (0, 700) ∧ b = .glob 0 o0) ∨ (n = (0, 701) ∧ b = .glob 1 o1) := by
  rintro ⟨d, s⟩ b hb
  cases d with
  | zero =>
   simp only [z1f, H, true_and] at hb
   by_cases e1 : s = 700
   · rw [if_pos e1] at hb; simp at hb; subst hb e1; exact .inl ⟨rfl, rfl⟩
   · rw [if_neg e1] at hb
     by_cases e2 : s = 701
     · rw [if_pos e2] at hb; simp at hb; subst hb e2; exact .inr ⟨rfl, rfl⟩
     · rw [if_neg e2] at hb; cases hb
  | succ d =>
   simp only [z1f, H] at hb
   simp at hb
 have l0 : z1f H (0, 700) = some (.glob 0 o0) := rfl
 have l1 : z1f H (0, 701) = some (.glob 1 o1) := rfl
 have hHR : HR H β (fun g => g = 0 ∨ g = 1) W := by
  refine ⟨fun n b hb => ?_, fun n m bn bm hn hm _ _ hne g hg => ?_, fun g hg => ?_⟩
  · rcases hlook n b hb with ⟨rfl, rfl⟩ | ⟨rfl, rfl⟩
    · exact .glob 0 o0 (.inl rfl) h0 hd0
    · exact .glob 1 o1 (.inr rfl) h1 hd1
  · rcases hlook n bn hn with ⟨rfl, rfl⟩ | ⟨rfl, rfl⟩ <;> rcases hlook m bm hm with ⟨rfl, rfl⟩ | ⟨rfl, rfl⟩
    · exact absurd rfl hne
    · have e0 : z2d (β (0, 700)) = some 0 := rfl
      have e1 : z2d (β (0, 701)) = some 1 := rfl
      rw [e0] at hg; rw [e1]; simp at hg ⊢; omega
    · have e0 : z2d (β (0, 700)) = some 0 := rfl
      have e1 : z2d (β (0, 701)) = some 1 := rfl
      rw [e1] at hg; rw [e0]; simp at hg ⊢; omega
    · exact absurd rfl hne
  · rcases hg with rfl | rfl
    · exact (Array.getElem?_eq_some_iff.1 h0).1
    · exact (Array.getElem?_eq_some_iff.1 h1).1
 have hsp := h H (fun q hq => by
  simp only [List.mem_cons, List.not_mem_nil, or_false] at hq
  rcases hq with rfl | rfl <;> rfl)
 refine (hsp.run β (fun g => g = 0 ∨ g = 1) W vs hHR ⟨hl, fun j p v h1 h2 => ha β j p v h1 h2⟩).mono fun e W' ⟨v, r, H', own', he, ⟨hr, hH'⟩, hv, hheap, hE⟩ => ?_
 subst hr hH'
 cases hv with
 | v _ _ hp =>
  refine ⟨by rw [he, PR.lit hp], fun _ => False, hE.os, hE.tape, hE.output, hE.size, fun b hb _ => ?_, fun _ _ h => h⟩
  have g0 : W'.heap[0]? = some o0 := by
   have := hheap.blk (0, 700) (.glob 0 o0) l0
   generalize hx : β (0, 700) = x at this
   cases this with | glob _ _ _ hg _ => exact hg
  have g1 : W'.heap[1]? = some o1 := by
   have := hheap.blk (0, 701) (.glob 1 o1) l1
   generalize hx : β (0, 701) = x at this
   cases this with | glob _ _ _ hg _ => exact hg
  by_cases e0 : b = 0
  · subst e0; rw [g0, h0]
  by_cases e1 : b = 1
  · subst e1; rw [g1, h1]
  exact hE.block b hb (by simp only [not_or]; exact ⟨e0, e1⟩)
end Go.Ab
namespace Go.Ab
variable {P : Program} {ty : TypeId} {x : Operand}
theorem zqx {src dst e : TypeId} {ts td te : TI} {l : List Int} [hs : z1d P src ts] [hd' : z1d P dst td] [he : z1d P e te] (hks : ts.kind = .slice e) (hkd : td.kind = .str) (hke : te.kind = .int .i32) :
  Val P (.convert src dst x) ty [(x, .d (.slice (l.map fun n => [.lit (.int .i32 n)])))] [] (S (runesBytes l)) := fun d pos aft gd n tm hp up hd hx _ =>
 z1m rfl hd fun β own ac w hrp => by
  have h1 := hrp.ev hx.1
  generalize hv : ac.eval x = v at h1
  refine ⟨.string (runesBytes l), ?_, PR.S _⟩
  cases h1 with
  | d _ _ h1 =>
   have key : (convert src dst v).run P w = .ok (.string (runesBytes l)) w := by
    generalize hxs : (l.map fun n => [D.lit (Value.int .i32 n)]) = xs at h1
    cases h1 with
    | nil a cap =>
     have : l = [] := List.map_eq_nil_iff.1 hxs
     subst this
     cases a with
     | none => exact run_convert_runes_nil w src dst e 0 cap (hs.slice hks) (he.int hke) (hd'.str hkd)
     | some a => exact run_convert_runes w src dst e a 0 cap [] (Nat.le_refl _) (hs.slice hks) (he.int hke) (hd'.str hkd) (fun j hj => by simp at hj)
    | slice _ g o cap k c hc hown hlt hk hcell hdd =>
     subst hxs
     rw [List.length_map]
     have := run_convert_runes (P := P) w src dst e ⟨g, o, none⟩ l.length cap l (Nat.le_refl _) (hs.slice hks) (he.int hke) (hd'.str hkd) (fun i hi => by
      have hl1 : (l.map fun n => [D.lit (Value.int .i32 n)])[i]? = some [D.lit (.int .i32 (l.getD i 0))] := by
       rw [List.getElem?_map, List.getElem?_eq_getElem hi, List.getD, List.getElem?_eq_getElem hi]; rfl
      have hk1 : k = 1 := by
       have := hk _ (List.mem_of_getElem? hl1); simpa using this.symm
      subst hk1
      have h2 := hcell i (by simpa using hi) 0 (by omega)
      have h3 := hdd i _ hl1 0 _ (by simp; rfl)
      have h4 : c i 0 = .int .i32 (l.getD i 0) := by
       generalize c i 0 = u at h3
       cases h3 with
       | lit _ h => rfl
      rw [← h4]
      have hplain : (⟨g, o, none⟩ : Addr).add i = ⟨g, o + i, none⟩ := by unfold Addr.add; split <;> simp_all
      rw [hplain]; simpa using h2.1)
     rw [List.take_length] at this
     exact this
   simp only [execOp, hv]
   rw [Sem.run_bind, key]; rfl
/-- what lies in memory where a slice of strings is handed over -/
theorem zqq {β : Nm → Value} {w : World} {own : Nat → Prop} {L : List ByteArray} {v : Value} (h : PR β w own (.d (.slice (L.map fun s => [.lit (.string s)]))) v) :
  (L = [] ∧ ∃ a cap, v = .slice a 0 cap) ∨ ∃ g o cap, v = .slice (some ⟨g, o, none⟩) L.length cap ∧ L.length ≤ cap ∧ g < w.heap.size ∧ ∀ (j : Nat) x, L[j]? = some x → w.cell? ⟨g, o + j, none⟩ = some (.string x) := by
 cases h with
 | d _ _ h1 =>
  generalize hxs : (L.map fun s => [D.lit (Value.string s)]) = xs at h1
  cases h1 with
  | nil a cap => exact .inl ⟨List.map_eq_nil_iff.1 hxs, a, cap, rfl⟩
  | slice _ g o cap k c hc hown hlt hk hcell hdd =>
   subst hxs
   right
   refine ⟨g, o, cap, by rw [List.length_map], by simpa using hc, hlt, fun i s hs => ?_⟩
   have hi : i < L.length := (List.getElem?_eq_some_iff.1 hs).1
   have hl1 : (L.map fun s => [D.lit (Value.string s)])[i]? = some [D.lit (.string s)] := by rw [List.getElem?_map, hs]; rfl
   have hk1 : k = 1 := by
    have := hk _ (List.mem_of_getElem? hl1); simpa using this.symm
   subst hk1
   have h2 := hcell i (by simpa using hi) 0 (by omega)
   have h3 := hdd i _ hl1 0 _ (by simp; rfl)
   have h4 : c i 0 = .string s := by
    generalize c i 0 = u at h3
    cases h3 with
    | lit _ h => rfl
   rw [← h4]; simpa using h2.1
end Go.Ab
