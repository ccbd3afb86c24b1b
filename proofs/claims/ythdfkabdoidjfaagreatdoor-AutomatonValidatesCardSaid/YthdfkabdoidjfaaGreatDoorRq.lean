/- A part of the proof: G22, G23, G24, G25, G26, G27, G28. -/
import Derived.Test.YthdfkabdoidjfaaGreatDoorRt
import Derived.Test.YthdfkabdoidjfaaGreatDoorRc
import Derived.Test.YthdfkabdoidjfaaGreatDoorRx
set_option linter.all false
set_option linter.unusedVariables false
set_option linter.unusedSimpArgs false
namespace Go.Proofs.YthdfkabdoidjfaaGreatDoor
open Go.Ab Go.Rx
set_option maxHeartbeats 20000000
set_option maxRecDepth 100000
attribute [local irreducible] Run Ops Op1 z2f Val Tr z1f z2d NF Rel z47 z48
abbrev n64 (x : Nat) : List D := [zqa (x : Nat)]
abbrev lvs (l : List (List Rg)) : D := .slice (l.map fun r => [rgs r])
/-- a table of leaves in memory -/
abbrev tbx (lv : List (List Rg)) (f l : Nat) (fo : List Nat) (nu : Bool) : Blk := .box [.d (lvs lv), I .u64 (f : Nat), I .u64 (l : Nat), .d (.slice (fo.map n64)), B nu]
theorem zrf {l : List Nat} {k : Nat} {x : Nat} (h : l[k]? = some x) : (l.map n64)[((k : Nat) : Int).toNat]? = some (n64 x) := by simp [h]
theorem zpf {X : Nat} (lv : List (List Rg)) (f l : Nat) (fo : List Nat) (nu : Bool) (S : Nat) (hS : S < 2 ^ 64) (hfo : fo.length ≤ 64) (hfx : ∀ x ∈ fo, x < 2 ^ 64) (beg : Bool) (e0 : Nat) :
  z2d Tryz.prog 60 [.ptr (e0, X) 0, I .u64 (S : Nat), B beg] [((e0, X), tbx lv f l fo nu)] [] (I .u64 ((if beg = true then f else nxF S 0 0 fo : Nat) : Int)) := by
 refine z2p fun H hH => ?_
 have hX : H e0 X = some (tbx lv f l fo nu) := hH ((e0, X), tbx lv f l fo nu) (by simp)
 refine z0t Tryz.func60 (by kernel_rfl) rfl (by simp) ?_
 dsimp only [Tryz.f60]
 cases beg with
 | true =>
  rw [if_pos rfl]
  repeat' (first | (apply z0c; (first | refine z0v rfl (by decide) ?_ | (apply z09; (refine z3h rfl hX rfl rfl rfl rfl (by decide) ?_)) | (apply z0h; (refine z00 (z04 rfl rfl) rfl rfl (by decide) ?_)))) | (apply z0b; (first | refine z0u ?_ | apply z0a)) | (apply z0d; (first | apply z0e | apply z01 | refine z1d rfl ?_)))
  all_goals try (exfalso; omega)
  all_goals exact z0r Tryz.func60 _ (z0p rfl rfl) ⟨rfl, rfl⟩
 | false =>
  rw [if_neg (by decide)]
  repeat' (first | (apply z0c; (first | refine z0v rfl (by decide) ?_ | (apply z09; (refine z3h rfl hX rfl rfl rfl rfl (by decide) ?_)) | (apply z0h; (refine z00 (z04 rfl rfl) rfl rfl (by decide) ?_)) | (apply z1a; (refine z00 (z1r rfl) rfl rfl (by decide) ?_)))) | (apply z0b; (first | refine z0u ?_ | apply z0a)) | (apply z0d; (first | apply z0e | apply z01 | refine z0m rfl ?_ | apply z06 | apply z02)))
  all_goals try (exfalso; omega)
  refine z1q ?_
  refine z0o (z2r (fun q : Nat × Nat => ⟨35, [(1, I .u64 (S : Nat)), (18, .d (.slice (fo.map n64))), (19, I .i64 fo.length), (20, I .i64 (q.1 : Nat)), (7, I .u64 (q.2 : Nat))], [], H⟩) (fun q => q.1 ≤ fo.length ∧ q.2 < 2 ^ 64 ∧ nxF S q.1 q.2 (fo.drop q.1) = nxF S 0 0 fo) (fun q => fo.length - q.1) ?_ (0, 0) ⟨Nat.zero_le _, by decide, rfl⟩) rfl rfl
  rintro ⟨q, acc⟩ ⟨i1, i2, i3⟩ ih
  simp only at i1 i2 i3 ih ⊢
  by_cases hlt : q < fo.length
  · obtain ⟨x, hx⟩ : ∃ x, fo[q]? = some x := ⟨_, List.getElem?_eq_getElem hlt⟩
    have hxl := hfx x (List.mem_of_getElem? hx)
    rw [drop_cons hx, nxF] at i3
    have hb := zow (i := q) hS (by omega)
    have ho := zsv i2 hxl
    by_cases ht : S.testBit q = true
    · rw [if_pos ht] at i3 hb
      repeat' (first | (apply z0c; (first | refine z0v rfl (by decide) ?_ | (apply z09; (refine z00 (z1i rfl rfl rfl) rfl rfl (by decide) ?_)) | (apply z0n; (refine z00 (z0i (ys := fo.map n64) rfl (by omega) (zrf hx) rfl) rfl rfl (by decide) ?_)) | (apply z18; (first | refine z00 (zbi (by omega)) rfl rfl (by decide) ?_ | refine z00 z7u rfl rfl (by decide) ?_ | refine z00 zc8 rfl rfl (by decide) ?_ | refine z00 (z11 (z1n (by omega) (by omega))) rfl rfl (by decide) ?_)))) | (apply z0b; (first | refine z0u ?_ | apply z0a)) | (apply z0d; (first | apply z0e | apply z01 | apply z06 | apply z02 | apply z03 | refine z1j rfl (fun _ => ?_) (fun _ => ?_) | refine z0j rfl ?_)))
      all_goals try (exfalso; omega)
      all_goals (rw [ho]; exact z0o (ih (q + 1, acc ||| x) ⟨by simp only; omega, Nat.or_lt_two_pow i2 hxl, i3⟩ (by simp only; omega)) rfl rfl)
    · rw [if_neg ht] at i3 hb
      repeat' (first | (apply z0c; (first | refine z0v rfl (by decide) ?_ | (apply z09; (refine z00 (z1i rfl rfl rfl) rfl rfl (by decide) ?_)) | (apply z0n; (refine z00 (z0i (ys := fo.map n64) rfl (by omega) (zrf hx) rfl) rfl rfl (by decide) ?_)) | (apply z18; (first | refine z00 (zbi (by omega)) rfl rfl (by decide) ?_ | refine z00 z7u rfl rfl (by decide) ?_ | refine z00 zc8 rfl rfl (by decide) ?_ | refine z00 (z11 (z1n (by omega) (by omega))) rfl rfl (by decide) ?_)))) | (apply z0b; (first | refine z0u ?_ | apply z0a)) | (apply z0d; (first | apply z0e | apply z01 | apply z06 | apply z02 | apply z03 | refine z1j rfl (fun _ => ?_) (fun _ => ?_) | refine z0j rfl ?_)))
      all_goals try (exfalso; omega)
      all_goals exact z0o (ih (q + 1, acc) ⟨by simp only; omega, i2, i3⟩ (by simp only; omega)) rfl rfl
  · obtain rfl : q = fo.length := by omega
    rw [List.drop_length, nxF] at i3
    rw [← i3]
    repeat' (first | (apply z0c; (refine z0v rfl (by decide) ?_)) | (apply z0b; (first | refine z0u ?_ | apply z0a)) | (apply z0d; (first | apply z0e | apply z01 | apply z06 | apply z02 | refine z1j rfl (fun _ => ?_) (fun _ => ?_) | refine z0j rfl ?_)))
    all_goals try (exfalso; omega)
    all_goals exact z0r Tryz.func60 _ (z0p rfl rfl) ⟨rfl, rfl⟩
end Go.Proofs.YthdfkabdoidjfaaGreatDoor
namespace Go.Proofs.YthdfkabdoidjfaaGreatDoor
open Go.Ab Go.Rx
set_option maxHeartbeats 20000000
set_option maxRecDepth 100000
attribute [local irreducible] Run Ops Op1 z2f Val Tr z1f z2d NF Rel z47 z48
/-- a table that is being built: its rows bear the names Y (leaves) and Z (what follows) -/
abbrev bbx (Y Z : Nat) : Blk := .box [.ref (0, Y), I .u64 0, I .u64 0, .ref (0, Z), B false]
theorem z9n (a b : Nat) : ∀ (l : List Nat) (i : Nat), (lnk a b i l).length = l.length
 | [], _ => rfl
 | x :: l, i => by rw [lnk, List.length_cons, List.length_cons, z9n a b l]
theorem z9u (a b : Nat) : ∀ (l : List Nat) (i q : Nat) (x : Nat), l[q]? = some x → (lnk a b i l)[q]? = some (if a.testBit (i + q) = true then x ||| b else x)
 | y :: l, i, 0, x, h => by simp at h; subst h; rw [lnk]; simp
 | y :: l, i, q + 1, x, h => by
  rw [List.getElem?_cons_succ] at h
  rw [lnk, List.getElem?_cons_succ, z9u a b l (i + 1) q x h, show i + 1 + q = i + (q + 1) by omega]
theorem zq1 {L fo : List Nat} {q v x : Nat} (hL : L[q]? = some v) (hx : fo[q]? = some x) : (L.take q ++ fo.drop q).set q v = L.take (q + 1) ++ fo.drop (q + 1) := by
 have hq := (List.getElem?_eq_some_iff.1 hL).1
 have hl : (L.take q).length = q := by rw [List.length_take]; omega
 rw [drop_cons hx, z7h hL, List.append_assoc, List.set_append_right _ _ (by omega), hl, Nat.sub_self]
 rfl
theorem zl2 {P : Program} {f : FuncId} {R : z3n} {k : List Item} {all : Array Oper} {l : List Oper} {n : Nat} {tm : List (Nat × PV)} {hp : Hp} {up : Hf} {ty : TypeId} {pos : String} {aft : Array Edge} {gd : Option (Nat × Bool)} {t e : TypeId} {ti : TI} {x y : Operand} {md ms kk i off : Nat} {p : PV} {ys ys' : List (List D)} {z : List D} {ps : List PV} {ds : List D} [ht : z1l P t ti] (hev : St.evs ⟨n, tm, hp, up⟩ [x, y] = some [.rptr (md + 1, ms) kk i off, p]) (hb : up md ms = some (.row e kk ys)) (hp' : cellsOf p = some ps) (hds : z7s ps = some ds)
  (hz : ys[i]? = some z) (hs : ds.length = ti.size) (hf : decide (off + ds.length ≤ kk) = true) (hys : ys.set i (z1c z off ds) = ys') (h : Ops P f R all l k ⟨n, tm, hp, upd up (md, ms) (.row e kk ys')⟩) : Op1 P f R all ⟨none, .store t x y, ty, pos, aft, gd⟩ l k ⟨n, tm, hp, up⟩ :=
 zi5 (m := (md + 1, ms)) hev hb hp' hds hz hs hf hys rfl h
theorem zmj {X Y Z : Nat} (hXZ : X ≠ Z) (fo : List Nat) (a b : Nat) (ha : a < 2 ^ 64) (hb : b < 2 ^ 64) (hfo : fo.length ≤ 64) (hfx : ∀ x ∈ fo, x < 2 ^ 64) (e0 : Nat) :
  z2d Tryz.prog 125 [.ptr (e0, X) 0, I .u64 (a : Nat), I .u64 (b : Nat)] [((e0, X), bbx Y Z), ((e0, Z), .row 76 1 (fo.map n64))] [((e0, Z), .row 76 1 ((lnk a b 0 fo).map n64))] (.tup []) := by
 refine z2p fun H hH => ?_
 have hX : H e0 X = some (bbx Y Z) := hH ((e0, X), bbx Y Z) (by simp)
 have hZ : H e0 Z = some (.row 76 1 (fo.map n64)) := hH ((e0, Z), .row 76 1 (fo.map n64)) (by simp)
 have hZ' : H (0 + e0) Z = some (.row 76 1 (fo.map n64)) := by rw [Nat.zero_add]; exact hZ
 have hll : (lnk a b 0 fo).length = fo.length := z9n a b fo 0
 refine z0t Tryz.func125 (by kernel_rfl) rfl (by simp) ?_
 dsimp only [Tryz.f125]
 repeat' (first | (apply z0c; (first | refine z0v rfl (by decide) ?_ | (apply z09; (refine z3h rfl hX rfl rfl rfl rfl (by decide) ?_)) | (apply z0h; (refine z00 (z04 rfl rfl) rfl rfl (by decide) ?_)) | (apply z1a; (refine z00 (z1p rfl) rfl (bkN hZ') (by decide) ?_)))) | (apply z0b; (first | refine z0u ?_ | apply z0a)) | (apply z0d; (first | apply z0e | apply z01 | apply z02)))
 all_goals try (exfalso; omega)
 refine z1q ?_
 refine zve (m := (0 + e0, Z)) hZ' ?_
 refine z0o (z2r (fun q : Nat => ⟨31, [(0, .ptr (e0 + 1, X) 0), (1, I .u64 (a : Nat)), (2, I .u64 (b : Nat)), (11, I .i64 fo.length), (12, I .i64 (q : Nat))], [], upd H (0 + e0, Z) (.row 76 1 (((lnk a b 0 fo).take q ++ fo.drop q).map n64))⟩) (fun q => q ≤ fo.length) (fun q => fo.length - q) ?_ 0 (Nat.zero_le _)) rfl rfl
 intro q i1 ih
 by_cases hlt : q < fo.length
 · obtain ⟨x, hx⟩ : ∃ x, fo[q]? = some x := ⟨_, List.getElem?_eq_getElem hlt⟩
   have hxl := hfx x (List.mem_of_getElem? hx)
   obtain ⟨W, hW⟩ : ∃ W, (lnk a b 0 fo).take q ++ fo.drop q = W := ⟨_, rfl⟩
   have hWq : W[q]? = some x := by rw [← hW, List.getElem?_append_right (by rw [List.length_take]; omega), List.length_take, hll, Nat.min_eq_left i1, Nat.sub_self, List.getElem?_drop]; exact hx
   have hXW : upd H (0 + e0, Z) (.row 76 1 (W.map n64)) e0 X = some (bbx Y Z) := z0s hX (by simp [hXZ])
   have hZW : upd H (0 + e0, Z) (.row 76 1 (W.map n64)) (0 + e0) Z = some (.row 76 1 (W.map n64)) := z4f _ _ _
   have hWl : W.length = fo.length := by rw [← hW, List.length_append, List.length_take, List.length_drop, hll]; omega
   rw [hW]
   have hbt := zow (S := a) (i := q) ha (by omega)
   have hor := zsv hxl hb
   have hLg := z9u a b fo 0 q x hx
   rw [Nat.zero_add] at hLg
   have hst := zq1 hLg hx
   rw [hW] at hst
   have ih' := ih (q + 1) (by omega) (by omega)
   rw [← hst] at ih'
   have hys : (W.map n64).set ((q : Nat) : Int).toNat [zqa (orV .u64 (x : Nat) (b : Nat))] = (W.set q (x ||| b)).map n64 := by rw [hor, Int.toNat_natCast, List.map_set]
   have hidx : (W.map n64)[((q : Nat) : Int).toNat]? = some (n64 x) := zrf hWq
   by_cases ht : a.testBit q = true
   · rw [if_pos ht] at hbt ih'
     repeat' (first | (apply z0c; (first | refine z0v rfl (by decide) ?_ | (apply z09; (first | refine z00 (zky hidx rfl rfl rfl) rfl (bkN hZW) (by decide) ?_ | refine z3h rfl hXW rfl rfl rfl rfl (by decide) ?_)) | (apply z0h; (refine z00 (z04 rfl rfl) rfl rfl (by decide) ?_)) | (apply z0n; (refine z00 (z13 rfl (by omega) (by rw [List.length_map]; omega) rfl) rfl (bkN hZW) (by decide) ?_)) | (apply z18; (first | refine z00 (zbi (by omega)) rfl rfl (by decide) ?_ | refine z00 z7u rfl rfl (by decide) ?_ | refine z00 zc8 rfl rfl (by decide) ?_ | refine z00 (z11 (z1n (by omega) (by omega))) rfl rfl (by decide) ?_)) | (apply z0f; (refine zl2 (md := 0 + e0) (ms := Z) rfl hZW rfl rfl hidx rfl rfl hys ?_)))) | (apply z0b; (first | refine z0u ?_ | apply z0a)) | (apply z0d; (first | apply z0e | apply z01 | apply z06 | apply z02 | apply z03 | refine z1j rfl (fun _ => ?_) (fun _ => ?_) | refine z0j rfl ?_)))
     all_goals try (exfalso; omega)
     all_goals (rw [z42]; exact z0o ih' rfl rfl)
   · rw [if_neg ht] at hbt ih'
     have hid : W.set q x = W := by
      obtain ⟨g1, g2⟩ := List.getElem?_eq_some_iff.1 hWq
      rw [← g2]; exact List.set_getElem_self g1
     rw [hid] at ih'
     repeat' (first | (apply z0c; (first | refine z0v rfl (by decide) ?_ | (apply z0h; (refine z00 (z04 rfl rfl) rfl rfl (by decide) ?_)) | (apply z18; (first | refine z00 (zbi (by omega)) rfl rfl (by decide) ?_ | refine z00 z7u rfl rfl (by decide) ?_ | refine z00 (z11 (z1n (by omega) (by omega))) rfl rfl (by decide) ?_)))) | (apply z0b; (first | refine z0u ?_ | apply z0a)) | (apply z0d; (first | apply z0e | apply z01 | apply z06 | apply z02 | apply z03 | refine z1j rfl (fun _ => ?_) (fun _ => ?_) | refine z0j rfl ?_)))
     all_goals try (exfalso; omega)
     all_goals exact z0o ih' rfl rfl
 · obtain rfl : q = fo.length := by omega
   rw [List.drop_length, List.append_nil, ← hll, List.take_length]
   repeat' (first | (apply z0c; (refine z0v rfl (by decide) ?_)) | (apply z0b; (first | refine z0u ?_ | apply z0a)) | (apply z0d; (first | apply z0e | apply z01 | apply z06 | apply z02 | refine z1j rfl (fun _ => ?_) (fun _ => ?_) | refine z0j rfl ?_)))
   all_goals try (exfalso; omega)
   all_goals exact zjs Tryz.func125 _ (z5k rfl) ⟨rfl, by rw [Nat.zero_add]; rfl⟩
end Go.Proofs.YthdfkabdoidjfaaGreatDoor
namespace Go.Proofs.YthdfkabdoidjfaaGreatDoor
open Go.Ab Go.Rx
set_option maxHeartbeats 20000000
set_option maxRecDepth 100000
attribute [local irreducible] Run Ops Op1 z2f Val Tr z1f z2d NF Rel z47 z48
theorem zhh {P : Program} {f : FuncId} {R : z3n} {k : List Item} {all : Array Oper} {l : List Oper} {n : Nat} {tm : List (Nat × PV)} {hp : Hp} {up : Hf} {d : Nat} {ty : TypeId} {pos : String} {aft : Array Edge} {gd : Option (Nat × Bool)} {p : PV} {g : FuncId} {args : List Operand} {ps : List PV} {ats : Array TypeId} {md m1 m2 : Nat} {b1 b2 b' : Blk}
  (hsp : z2d P g ps [((md + 1, m1), b1), ((md + 1, m2), b2)] [((md + 1, m2), b')] p) (hev : St.evs ⟨n, tm, hp, up⟩ args = some ps) (h1 : up md m1 = some b1) (h2 : up md m2 = some b2) (hd : d < n)
  (h : Ops P f R all l k ⟨n, (d, p) :: tm, hp, upd up (md, m2) b'⟩) : Op1 P f R all ⟨some d, .call ⟨.value (.func g), args.toArray, ats⟩, ty, pos, aft, gd⟩ l k ⟨n, tm, hp, up⟩ :=
 zg8 hsp hev (z36 (m := (md + 1, m1)) h1 (z36 (m := (md + 1, m2)) h2 zqk)) hd rfl h
abbrev ptc (p : Pt) : List D := [zqa (p.f : Nat), zqa (p.l : Nat), zad p.nu]
theorem zf2 {X Y Z : Nat} (hXZ : X ≠ Z) (fo : List Nat) (a b : Pt) (ha1 : a.f < 2 ^ 64) (ha2 : a.l < 2 ^ 64) (hb1 : b.f < 2 ^ 64) (hb2 : b.l < 2 ^ 64) (hfo : fo.length ≤ 64) (hfx : ∀ x ∈ fo, x < 2 ^ 64) (lv : List (List Rg)) (e0 : Nat) :
  z2d Tryz.prog 119 [.ptr (e0, X) 0, .d (.agg (ptc a)), .d (.agg (ptc b))] [((e0, X), bbx Y Z), ((e0, Z), .row 76 1 (fo.map n64))] [((e0, Z), .row 76 1 ((lnk a.l b.f 0 fo).map n64))] (.d (.agg (ptc (z7p a b ⟨lv, fo⟩).2))) := by
 refine z2p fun H hH => ?_
 have hX : H e0 X = some (bbx Y Z) := hH ((e0, X), bbx Y Z) (by simp)
 have hZ : H e0 Z = some (.row 76 1 (fo.map n64)) := hH ((e0, Z), .row 76 1 (fo.map n64)) (by simp)
 have hl := zmj (X := X) (Y := Y) (Z := Z) hXZ fo a.l b.f ha2 hb1 hfo hfx (e0 + 1)
 have ho1 := zsv ha1 hb1
 have ho2 := zsv hb2 ha2
 obtain ⟨af, al, an⟩ := a
 obtain ⟨bf, bl, bn⟩ := b
 refine z0t Tryz.func119 (by kernel_rfl) rfl (by simp) ?_
 dsimp only [Tryz.f119, z7p]
 simp only at hl ho1 ho2
 cases an <;> cases bn <;> skip
 all_goals (try simp only [if_true, if_false, Bool.false_eq_true])
 all_goals (try rw [← ho1]) 
 all_goals (try rw [← ho2])
 · repeat' (first | (apply z0c; (first | refine z0v rfl (by decide) ?_ | (apply z09; (first | refine z00 (z0g rfl rfl rfl rfl) rfl rfl (by decide) ?_ | refine z00 (z14 rfl rfl rfl rfl) rfl rfl (by decide) ?_)) | (apply z0h; (refine z00 (z04 rfl rfl) rfl rfl (by decide) ?_)) | (apply z16; (refine zhh hl rfl hX hZ (by decide) ?_)) | (apply z0f; (refine z08 rfl rfl rfl rfl rfl rfl ?_)) | (apply z0l; (refine z07 (z0k rfl rfl (by decide)) ?_)) | (apply z2b; (refine z07 (z4c rfl rfl (by decide)) ?_)) | (apply z0z; (refine z10 rfl rfl rfl rfl rfl rfl rfl (by decide) ?_)))) | (apply z0b; (first | refine z0u ?_ | apply z0a | refine z3v rfl rfl (by decide) ?_)) | (apply z0d; (first | apply z0e | apply z01 | refine z0m rfl ?_ | apply z06)))
   all_goals exact z0r Tryz.func119 _ (z30 rfl rfl rfl rfl rfl rfl) ⟨by first | rfl | (dsimp only [ptc]; rw [← ho2]; rfl) | (dsimp only [ptc]; rw [← ho1]; rfl) | (dsimp only [ptc]; rw [← ho1, ← ho2]; rfl), rfl⟩
 · repeat' (first | (apply z0c; (first | refine z0v rfl (by decide) ?_ | (apply z09; (first | refine z00 (z0g rfl rfl rfl rfl) rfl rfl (by decide) ?_ | refine z00 (z14 rfl rfl rfl rfl) rfl rfl (by decide) ?_)) | (apply z0h; (refine z00 (z04 rfl rfl) rfl rfl (by decide) ?_)) | (apply z18; (refine z00 zc8 rfl rfl (by decide) ?_)) | (apply z16; (refine zhh hl rfl hX hZ (by decide) ?_)) | (apply z0f; (refine z08 rfl rfl rfl rfl rfl rfl ?_)) | (apply z0l; (refine z07 (z0k rfl rfl (by decide)) ?_)) | (apply z2b; (refine z07 (z4c rfl rfl (by decide)) ?_)) | (apply z0z; (refine z10 rfl rfl rfl rfl rfl rfl rfl (by decide) ?_)))) | (apply z0b; (first | refine z0u ?_ | apply z0a | refine z3v rfl rfl (by decide) ?_)) | (apply z0d; (first | apply z0e | apply z01 | refine z1d rfl ?_ | refine z0m rfl ?_ | apply z06)))
   all_goals exact z0r Tryz.func119 _ (z30 rfl rfl rfl rfl rfl rfl) ⟨by first | rfl | (dsimp only [ptc]; rw [← ho2]; rfl) | (dsimp only [ptc]; rw [← ho1]; rfl) | (dsimp only [ptc]; rw [← ho1, ← ho2]; rfl), rfl⟩
 · repeat' (first | (apply z0c; (first | refine z0v rfl (by decide) ?_ | (apply z09; (first | refine z00 (z0g rfl rfl rfl rfl) rfl rfl (by decide) ?_ | refine z00 (z14 rfl rfl rfl rfl) rfl rfl (by decide) ?_)) | (apply z0h; (refine z00 (z04 rfl rfl) rfl rfl (by decide) ?_)) | (apply z18; (refine z00 zc8 rfl rfl (by decide) ?_)) | (apply z16; (refine zhh hl rfl hX hZ (by decide) ?_)) | (apply z0f; (refine z08 rfl rfl rfl rfl rfl rfl ?_)) | (apply z0l; (refine z07 (z0k rfl rfl (by decide)) ?_)) | (apply z2b; (refine z07 (z4c rfl rfl (by decide)) ?_)) | (apply z0z; (refine z10 rfl rfl rfl rfl rfl rfl rfl (by decide) ?_)))) | (apply z0b; (first | refine z0u ?_ | apply z0a)) | (apply z0d; (first | apply z0e | apply z01 | refine z1d rfl ?_ | refine z0m rfl ?_ | apply z06)))
   all_goals exact z0r Tryz.func119 _ (z30 rfl rfl rfl rfl rfl rfl) ⟨by first | rfl | (dsimp only [ptc]; rw [← ho2]; rfl) | (dsimp only [ptc]; rw [← ho1]; rfl) | (dsimp only [ptc]; rw [← ho1, ← ho2]; rfl), rfl⟩
 · repeat' (first | (apply z0c; (first | refine z0v rfl (by decide) ?_ | (apply z09; (first | refine z00 (z0g rfl rfl rfl rfl) rfl rfl (by decide) ?_ | refine z00 (z14 rfl rfl rfl rfl) rfl rfl (by decide) ?_)) | (apply z0h; (refine z00 (z04 rfl rfl) rfl rfl (by decide) ?_)) | (apply z18; (refine z00 zc8 rfl rfl (by decide) ?_)) | (apply z16; (refine zhh hl rfl hX hZ (by decide) ?_)) | (apply z0f; (refine z08 rfl rfl rfl rfl rfl rfl ?_)) | (apply z0l; (refine z07 (z0k rfl rfl (by decide)) ?_)) | (apply z2b; (refine z07 (z4c rfl rfl (by decide)) ?_)) | (apply z0z; (refine z10 rfl rfl rfl rfl rfl rfl rfl (by decide) ?_)))) | (apply z0b; (first | refine z0u ?_ | apply z0a)) | (apply z0d; (first | apply z0e | apply z01 | refine z1d rfl ?_)))
   all_goals exact z0r Tryz.func119 _ (z30 rfl rfl rfl rfl rfl rfl) ⟨by first | rfl | (dsimp only [ptc]; rw [← ho2]; rfl) | (dsimp only [ptc]; rw [← ho1]; rfl) | (dsimp only [ptc]; rw [← ho1, ← ho2]; rfl), rfl⟩
end Go.Proofs.YthdfkabdoidjfaaGreatDoor
namespace Go.Proofs.YthdfkabdoidjfaaGreatDoor
open Go.Ab Go.Rx
set_option maxHeartbeats 20000000
set_option maxRecDepth 100000
attribute [local irreducible] Run Ops Op1 z2f Val Tr z1f z2d NF Rel z47 z48 zd5
abbrev lv1 (r : List Rg) : List D := [rgs r]
abbrev lvr (lv : List (List Rg)) : Blk := .row 41 1 (lv.map lv1)
abbrev fwr (fo : List Nat) : Blk := .row 76 1 (fo.map n64)
abbrev bks (t : Tb) : List (Nm × Blk) := [((0, 600), bbx 601 602), ((0, 601), lvr t.lv), ((0, 602), fwr t.fo)]
/-- behind the call the rows bear new names -/
abbrev hks (t : Tb) : List (Nm × Blk) := [((0, 600), .gone), ((0, 601), .gone), ((0, 602), .gone), ((0, 603), lvr t.lv), ((0, 604), fwr t.fo), ((0, 600), bbx 603 604)]
/-- a method of a table that is being built -/
abbrev zfs (g : FuncId) (args : List PV) (t : Tb) (r : Tb × Pt) : Prop := zd5 Tryz.prog g (.ptr (0, 600) 0 :: args) (bks t) (hks r.1) (.d (.agg (ptc r.2))) 603 604
/-- a part's leaves are added by build -/
abbrev KB (e : Rx) : Prop := ∀ t : Tb, Sm t → (t.lv.length : Int) + pn e ≤ 64 → zfs 105 [.d (Drx e)] t (bd e t)
theorem z5j (op mn mx : Int) (rs : List Rg) (ks : List Rx) : Drx (.mk op mn mx rs ks) = .agg (rx5 op mn mx rs ks) := congrArg D.agg (z43 op mn mx rs ks)
theorem zce (e : Rx) (hv : vns e = true) (hk : KB e) : ∀ (n : Nat) (t : Tb), Sm t → n ≤ 16 → (t.lv.length : Int) + n * pn e ≤ 64 → zfs 126 [.d (Drx e), I .i64 (n : Nat)] t (opt (bd e) n t)
 | 0, t, hs, hn, hl => by
  obtain ⟨op, mn, mx, rs, ks⟩ := e
  rw [z5j]
  refine z84 fun H hH hG1 hG2 hQ1 hQ2 => ?_
  have hH0 := hH ((0, 600), bbx 601 602) (by simp)
  have hH1 := hH ((0, 601), lvr t.lv) (by simp)
  have hH2 := hH ((0, 602), fwr t.fo) (by simp)
  refine z4n Tryz.func126 (by kernel_rfl) rfl (by simp) ?_
  dsimp only [Tryz.f126]
  refine z7d 600 0 600 hH0 rfl rfl ?_
  refine z3t 601 0 601 (z0s hH1 (by simp)) rfl rfl ?_
  refine z3t 602 0 602 (z0s (z0s hH2 (by simp)) (by simp)) rfl rfl ?_
  refine z4j 100601 rfl ?_
  refine z4j 100602 rfl ?_
  repeat' (first | (apply z0c; (first | refine z0v rfl (by decide) ?_ | (apply z0f; (refine z08 rfl rfl rfl rfl rfl rfl ?_)) | (apply z0l; (refine z07 (z0k rfl rfl (by decide)) ?_)) | (apply z2b; (refine z07 (z4c rfl rfl (by decide)) ?_)) | (apply z0z; (refine z10 rfl rfl rfl rfl rfl rfl rfl (by decide) ?_)))) | (apply z0b; (first | refine z0u ?_ | apply z0a)) | (apply z0d; (first | apply z0e | apply z01 | refine z1d rfl ?_)))
  all_goals try (exfalso; omega)
  all_goals refine z34 601 603 rfl (z0s (z0s (z0s hG1 (by simp)) (by simp)) (by simp)) (Or.inl rfl) rfl (Quiet.upd (Quiet.upd (Quiet.upd hQ1 rfl) rfl) rfl) ?_
  all_goals refine z34 602 604 rfl (z0s (z0s (z0s (z0s hG2 (by simp)) (by simp)) (by simp)) (by simp)) (Or.inr rfl) rfl (Quiet.upd (Quiet.upd (Quiet.upd (Quiet.upd hQ2 rfl) rfl) rfl) rfl) ?_
  all_goals refine z4l 600 0 600 (raw := bbx 603 604) rfl rfl rfl rfl rfl ?_
  refine z0r Tryz.func126 _ (z30 rfl rfl rfl rfl rfl rfl) ⟨rfl, rfl⟩
 | n + 1, t, hs, hn, hl => by
  have hko := ztr hv
  have h0 := zc9.1 e hv
  have hnP : 0 ≤ (n : Int) * pn e := Int.mul_nonneg (by omega) h0
  have ee : ((n + 1 : Nat) : Int) * pn e = n * pn e + pn e := by rw [show ((n + 1 : Nat) : Int) = (n : Int) + 1 by omega, Int.add_mul, Int.one_mul]
  rw [ee] at hl
  have hbl := hko.bl t hs.len
  have hfw := hko.few t hs.len
  obtain ⟨s1, pf, pl⟩ := hbl.sm hs (by omega)
  have hos := zaj hko h0 n (bd e t).1 s1.len
  obtain ⟨s2, qf, ql⟩ := hos.1.sm s1 (by omega)
  have hk1 := hk t hs (by omega)
  have ho := zce e hv hk n (bd e t).1 s1 (by omega) (by omega)
  have hcc := zf2 (X := 600) (Y := 603) (Z := 604) (by decide) (opt (bd e) n (bd e t).1).1.fo (bd e t).2 (opt (bd e) n (bd e t).1).2 pf pl qf ql (by rw [s2.len]; omega) s2.sm (opt (bd e) n (bd e t).1).1.lv 0
  have hn1 : ((n + 1 : Nat) : Int) - 1 = (n : Nat) := by omega
  have hnu := zqd (b := bd e) n (bd e t).1
  rw [opt]
  generalize hE : opt (bd e) n (bd e t).1 = r2 at *
  generalize hB : bd e t = r1 at *
  obtain ⟨t2, p2⟩ := r2
  obtain ⟨t1, p1⟩ := r1
  obtain ⟨op, mn, mx, rs, ks⟩ := e
  rw [z5j] at hk1 ho ⊢
  dsimp only [zfs, hks] at hk1 ho
  rw [← hn1] at ho
  have e1 : (t.lv.map lv1).length = t.lv.length := List.length_map _
  have e2 : (t1.lv.map lv1).length = t1.lv.length := List.length_map _
  refine z84 fun H hH hG1 hG2 hQ1 hQ2 => ?_
  have hH0 := hH ((0, 600), bbx 601 602) (by simp)
  have hH1 := hH ((0, 601), lvr t.lv) (by simp)
  have hH2 := hH ((0, 602), fwr t.fo) (by simp)
  refine z4n Tryz.func126 (by kernel_rfl) rfl (by simp) ?_
  dsimp only [Tryz.f126]
  refine z7d 600 0 600 hH0 rfl rfl ?_
  refine z3t 601 0 601 (z0s hH1 (by simp)) rfl rfl ?_
  refine z3t 602 0 602 (z0s (z0s hH2 (by simp)) (by simp)) rfl rfl ?_
  refine z4j 100601 rfl ?_
  refine z4j 100602 rfl ?_
  simp only [same, decide_eq_true_eq] at *
  by_cases hsm : t1.lv.length = t.lv.length
  · rw [if_pos hsm]
    repeat' (first | (apply z0c; (first | refine z7r hk1 rfl rfl rfl (by decide) rfl rfl rfl (by decide) rfl rfl rfl rfl ?_ | refine z0v rfl (by decide) ?_ | (apply z09; (first | refine z00 (z2i rfl rfl rfl) rfl rfl (by decide) ?_ | refine z00 (z0g rfl rfl rfl rfl) rfl rfl (by decide) ?_)) | (apply z0h; (refine z00 (z04 rfl rfl) rfl rfl (by decide) ?_)) | (apply z1a; (refine z00 (z6a rfl) rfl rfl (by decide) ?_)) | (apply z0f; (refine z08 rfl rfl rfl rfl rfl rfl ?_)) | (apply z0l; (refine z07 (z0k rfl rfl (by decide)) ?_)) | (apply z2b; (refine z07 (z4c rfl rfl (by decide)) ?_)) | (apply z0z; (refine z10 rfl rfl rfl rfl rfl rfl rfl (by decide) ?_)))) | (apply z0b; (first | refine z0u ?_ | apply z0a)) | (apply z0d; (first | apply z0e | apply z01 | refine z0m rfl ?_ | apply z06 | apply z3c | refine z1j rfl (fun _ => ?_) (fun _ => ?_))) | (apply z3b; (first | refine z3g rfl (by first | exact rfl | exact ⟨_, rfl, rfl, rfl⟩) (by decide) ?_ | (apply z0x; (refine z05 (z14 rfl rfl rfl rfl) (by first | exact rfl | exact ⟨_, rfl, rfl, rfl⟩) rfl rfl (by decide) ?_)) | (apply z2c; (refine z05 (z29 (z1n (by omega) (by omega))) (by first | exact rfl | exact ⟨_, rfl, rfl, rfl⟩) rfl rfl (by decide) ?_)))))
    all_goals try (exfalso; omega)
    all_goals refine z34 601 603 rfl (z0s (z0s (z0s hG1 (by simp)) (by simp)) (by simp)) (Or.inl rfl) rfl (Quiet.upd (Quiet.upd (Quiet.upd hQ1 rfl) rfl) rfl) ?_
    all_goals refine z34 602 604 rfl (z0s (z0s (z0s (z0s hG2 (by simp)) (by simp)) (by simp)) (by simp)) (Or.inr rfl) rfl (Quiet.upd (Quiet.upd (Quiet.upd (Quiet.upd hQ2 rfl) rfl) rfl) rfl) ?_
    all_goals refine z4l 600 0 600 (raw := bbx 603 604) rfl rfl rfl rfl rfl ?_
    all_goals refine z0r Tryz.func126 _ (z30 rfl rfl rfl rfl rfl rfl) ⟨rfl, rfl⟩
  · rw [if_neg hsm]
    repeat' (first | (apply z0c; (first | refine z7r hk1 rfl rfl rfl (by decide) rfl rfl rfl (by decide) rfl rfl rfl rfl ?_ | refine z0v rfl (by decide) ?_ | (apply z09; (first | refine z00 (z2i rfl rfl rfl) rfl rfl (by decide) ?_ | refine z00 (z0g rfl rfl rfl rfl) rfl rfl (by decide) ?_ | refine z00 (z14 rfl rfl rfl rfl) rfl rfl (by decide) ?_)) | (apply z0h; (refine z00 (z04 rfl rfl) rfl rfl (by decide) ?_)) | (apply z1a; (refine z00 (z6a rfl) rfl rfl (by decide) ?_)) | (apply z0f; (refine z08 rfl rfl rfl rfl rfl rfl ?_)) | (apply z0l; (refine z07 (z0k rfl rfl (by decide)) ?_)) | (apply z2b; (refine z07 (z4c rfl rfl (by decide)) ?_)) | (apply z0z; (refine z10 rfl rfl rfl rfl rfl rfl rfl (by decide) ?_)))) | (apply z0b; (first | refine z0u ?_ | apply z0a)) | (apply z0d; (first | apply z0e | apply z01 | refine z0m rfl ?_ | apply z06 | apply z3c | refine z1j rfl (fun _ => ?_) (fun _ => ?_))) | (apply z3b; (first | (apply z1k; refine z2a mix (by kernel_rfl) ?_) | refine zs1 ho (by first | exact rfl | exact ⟨_, rfl, rfl, rfl⟩) rfl rfl rfl (by decide) rfl rfl rfl (by decide) ?_ | refine z3g rfl (by first | exact rfl | exact ⟨_, rfl, rfl, rfl⟩) (by decide) ?_ | (apply z0x; (refine z05 (z14 rfl rfl rfl rfl) (by first | exact rfl | exact ⟨_, rfl, rfl, rfl⟩) rfl rfl (by decide) ?_)) | (apply z2c; (refine z05 (z29 (z1n (by omega) (by omega))) (by first | exact rfl | exact ⟨_, rfl, rfl, rfl⟩) rfl rfl (by decide) ?_)) | (apply z3k; (refine zh5 hcc (by first | exact rfl | exact ⟨_, rfl, rfl, rfl⟩) rfl rfl rfl (by decide) ?_)) | (apply z3i; (refine z4t (by first | exact rfl | exact ⟨_, rfl, rfl, rfl⟩) rfl rfl rfl rfl rfl rfl ?_)) | (apply ze1; (refine zgb (by first | exact rfl | exact ⟨_, rfl, rfl, rfl⟩) rfl rfl (by decide) ?_)))))
    all_goals try (exfalso; omega)
    all_goals refine z34 603 603 rfl (z0s (z0s (z0s hG1 (by simp)) (by simp)) (by simp)) (Or.inl rfl) rfl (Quiet.upd (Quiet.upd (Quiet.upd hQ1 rfl) rfl) rfl) ?_
    all_goals refine z34 604 604 rfl (z0s (z0s (z0s (z0s hG2 (by simp)) (by simp)) (by simp)) (by simp)) (Or.inr rfl) rfl (Quiet.upd (Quiet.upd (Quiet.upd (Quiet.upd hQ2 rfl) rfl) rfl) rfl) ?_
    all_goals refine z4l 600 0 600 (raw := bbx 603 604) rfl rfl rfl rfl rfl ?_
    refine z0r Tryz.func126 _ (z30 rfl rfl rfl rfl rfl rfl) ⟨rfl, rfl⟩
end Go.Proofs.YthdfkabdoidjfaaGreatDoor
namespace Go.Proofs.YthdfkabdoidjfaaGreatDoor
open Go.Ab Go.Rx
set_option maxHeartbeats 20000000
set_option maxRecDepth 100000
attribute [local irreducible] Run Ops Op1 z2f Val Tr z1f z2d NF Rel z47 z48 zd5
abbrev U3 (H : Hf) : Hf := upd (upd (upd H (0, 600) .gone) (0, 601) .gone) (0, 602) .gone
abbrev ptb (p : Pt) : Blk := .box [.d (zqa (p.f : Nat)), .d (zqa (p.l : Nat)), .d (zad p.nu)]
abbrev zy4 (op mn mx : Int) (rs : List Rg) (c : List D) : List D := [z2x op, z2x mn, z2x mx, rgs rs, .slice [c]]
theorem zrq (op mn mx : Int) (rs : List Rg) (ok mk xk : Int) (rk : List Rg) (kk : List Rx) : rx5 op mn mx rs [.mk ok mk xk rk kk] = zy4 op mn mx rs (rx5 ok mk xk rk kk) := by
 show [z2x op, z2x mn, z2x mx, rgs rs, .slice [rxc (.mk ok mk xk rk kk)]] = _
 rw [z43]
theorem zvh (op mn mx : Int) (rs : List Rg) (k : Rx) (hvk : vns k = true) (hk : KB k) (h0 : 0 ≤ mn) (h16 : mn ≤ 16) (hm : mx = -1 ∨ (mn ≤ mx ∧ mx ≤ 16)) (t : Tb) (hs : Sm t) (hl : (t.lv.length : Int) + rep mn mx (pn k) ≤ 64) :
  zfs 120 [.d (Drx (.mk op mn mx rs [k]))] t (rp (bd k) mn mx t) := by
 have hko := ztr hvk
 have hP := zc9.1 k hvk
 have hrep : mn * pn k ≤ rep mn mx (pn k) := by
  rw [rep]
  split
  · rw [Int.mul_comm]; exact Int.mul_le_mul_of_nonneg_left (by omega) hP
  · rw [Int.mul_comm]; exact Int.mul_le_mul_of_nonneg_left (by omega) hP
 obtain ⟨r, hr⟩ : ∃ r, rpl (bd k) (decide (mx < 0)) mn.toNat t ptE = r := ⟨_, rfl⟩
 obtain ⟨F, hF⟩ : ∃ F, rp (bd k) mn mx t = F := ⟨_, rfl⟩
 have hF' := hF
 rw [rp] at hF'
 simp only [hr] at hF'
 rw [hF]
 obtain ⟨ok, mk, xk, rk, kk⟩ := k
 rw [z5j, zrq]
 refine z84 fun H hH hG1 hG2 hQ1 hQ2 => ?_
 have hH0 := hH ((0, 600), bbx 601 602) (by simp)
 have hH1 := hH ((0, 601), lvr t.lv) (by simp)
 have hH2 := hH ((0, 602), fwr t.fo) (by simp)
 refine z4n Tryz.func120 (by kernel_rfl) rfl (by simp) ?_
 dsimp only [Tryz.f120]
 refine z7d 600 0 600 hH0 rfl rfl ?_
 refine z3t 601 0 601 (z0s hH1 (by simp)) rfl rfl ?_
 refine z3t 602 0 602 (z0s (z0s hH2 (by simp)) (by simp)) rfl rfl ?_
 refine z4j 100601 rfl ?_
 refine z4j 100602 rfl ?_
 repeat' (first | (apply z0c; (first | refine z0v rfl (by decide) ?_ | (apply z09; (refine z00 (z0g rfl rfl rfl rfl) rfl rfl (by decide) ?_)) | (apply z0h; (refine z00 (z04 rfl rfl) rfl rfl (by decide) ?_)) | (apply z0f; (refine z08 rfl rfl rfl rfl rfl rfl ?_)) | (apply z0l; (refine z07 (z0k rfl rfl (by decide)) ?_)) | (apply z2b; (refine z07 (z4c rfl rfl (by decide)) ?_)) | (apply z0z; (refine z10 rfl rfl rfl rfl rfl rfl rfl (by decide) ?_)))) | (apply z0b; (first | refine z0u ?_ | apply z0a)) | (apply z0d; (first | apply z0e | apply z01 | apply z02)))
 refine z1q ?_
 refine z0o (z2r (fun q : Nat × Tb × Pt => ⟨98, [(0, .ptr (0, 600) 0), (3, .ptr (0, 3) 0), (4, .ptr (0, 4) 0), (5, .ptr (0, 5) 0), (11, I .i64 mn), (12, I .i64 (q.1 : Nat)), (100600, .al (0, 600) (1, 600))], [(3, .box ((zy4 op mn mx rs (rx5 ok mk xk rk kk)).map .d)), (4, ptb ptN), (5, ptb q.2.2), (600, bbx 601 602), (601, lvr q.2.1.lv), (602, fwr q.2.1.fo)], U3 H⟩)
  (fun q => q.1 ≤ mn.toNat ∧ rpl (bd (.mk ok mk xk rk kk)) (decide (mx < 0)) (mn.toNat - q.1) q.2.1 q.2.2 = r ∧ (∃ Z, Bl O1 Z t q.2.1 q.2.2) ∧ (q.2.1.lv.length : Int) + ((mn.toNat - q.1 : Nat) : Int) * pn (.mk ok mk xk rk kk) ≤ t.lv.length + mn * pn (.mk ok mk xk rk kk)) (fun q => mn.toNat - q.1) ?_ (0, t, ptE) ⟨Nat.zero_le _, hr, ⟨_, Bl.eps (Ex.refl hs.len)⟩, by simp only [Nat.sub_zero]; rw [show ((mn.toNat : Nat) : Int) = mn by omega]; exact Int.le_refl _⟩) rfl rfl
 rintro ⟨i, t', p⟩ ⟨i1, i2, ⟨Z, i3⟩, i4⟩ ih
 simp only at i1 i2 i3 i4 ih ⊢
 have hnn : 0 ≤ ((mn.toNat - i : Nat) : Int) * pn (.mk ok mk xk rk kk) := Int.mul_nonneg (by omega) hP
 obtain ⟨s1, pf, pl⟩ := i3.sm hs (by omega)
 by_cases hlt : i < mn.toNat
 · obtain ⟨n', hn⟩ : ∃ n', mn.toNat - i = n' + 1 := ⟨mn.toNat - i - 1, by omega⟩
   have hn2 : mn.toNat - (i + 1) = n' := by omega
   have hbl := hko.bl t' s1.len
   have hfw := hko.few t' s1.len
   have hnn2 : 0 ≤ (n' : Int) * pn (.mk ok mk xk rk kk) := Int.mul_nonneg (by omega) hP
   rw [hn, show ((n' + 1 : Nat) : Int) = (n' : Int) + 1 by omega, Int.add_mul, Int.one_mul] at i4
   obtain ⟨s2, qf, ql⟩ := hbl.sm s1 (by omega)
   have hk1 := hk t' s1 (by omega)
   rw [hn, rpl] at i2
   generalize hB : bd (.mk ok mk xk rk kk) t' = r1 at *
   obtain ⟨t1, q⟩ := r1
   have hfw2 : (t1.lv.length : Int) ≤ t'.lv.length + pn (.mk ok mk xk rk kk) := hfw
   rw [z5j] at hk1
   dsimp only [zfs, hks] at hk1
   simp only [same, decide_eq_true_eq] at i2
   have e1 : (t'.lv.map lv1).length = t'.lv.length := List.length_map _
   have e2 : (t1.lv.map lv1).length = t1.lv.length := List.length_map _
   by_cases hsm : t1.lv.length = t'.lv.length
   · rw [if_pos hsm] at i2
     have hFF : F = (t1, ptE) := by
      rw [← hF', ← i2]; rfl
     rw [hFF]
     repeat' (first | (apply z0c; (first | refine z7r hk1 rfl rfl rfl (by decide) rfl rfl rfl (by decide) rfl rfl rfl rfl ?_ | refine z0v rfl (by decide) ?_ | (apply z09; (first | refine z00 (z0g rfl rfl rfl rfl) rfl rfl (by decide) ?_ | refine z00 (z0q rfl rfl) rfl rfl (by decide) ?_ | refine z00 (z14 rfl rfl rfl rfl) rfl rfl (by decide) ?_)) | (apply z0h; (refine z00 (z04 rfl rfl) rfl rfl (by decide) ?_)) | (apply z0n; (refine z00 (z0i (ys := [rx5 ok mk xk rk kk]) rfl (by omega) rfl rfl) rfl rfl (by decide) ?_)) | (apply z18; (refine z00 (z29 (z1n (by omega) (by omega))) rfl rfl (by decide) ?_)) | (apply z1a; (refine z00 (z6a rfl) rfl rfl (by decide) ?_)) | (apply z0f; (refine z08 rfl rfl rfl rfl rfl rfl ?_)) | (apply z0l; (refine z07 (z0k rfl rfl (by decide)) ?_)) | (apply z0z; (refine z10 rfl rfl rfl rfl rfl rfl rfl (by decide) ?_)))) | (apply z0b; (first | refine z0u ?_ | apply z0a | refine z3v rfl rfl (by decide) ?_ | refine z1h rfl rfl (fun _ => ?_) (fun _ => ?_))) | (apply z0d; (first | apply z0e | apply z01 | refine z0m rfl ?_ | apply z06 | apply z02 | apply z3c | apply z03 | refine z1j rfl (fun _ => ?_) (fun _ => ?_) | refine z0j rfl ?_)) | (apply z3b; (first | refine z3g rfl (by first | exact rfl | exact ⟨_, rfl, rfl, rfl⟩) (by decide) ?_ | (apply z0x; (first | refine z05 (z0g rfl rfl rfl rfl) (by first | exact rfl | exact ⟨_, rfl, rfl, rfl⟩) rfl rfl (by decide) ?_ | refine z05 (z0q rfl rfl) (by first | exact rfl | exact ⟨_, rfl, rfl, rfl⟩) rfl rfl (by decide) ?_ | refine z05 (z14 rfl rfl rfl rfl) (by first | exact rfl | exact ⟨_, rfl, rfl, rfl⟩) rfl rfl (by decide) ?_)) | (apply z0w; (refine z05 (z04 rfl rfl) (by first | exact rfl | exact ⟨_, rfl, rfl, rfl⟩) rfl rfl (by decide) ?_)) | (apply z1g; (refine z05 (z0i (ys := [rx5 ok mk xk rk kk]) rfl (by omega) rfl rfl) (by first | exact rfl | exact ⟨_, rfl, rfl, rfl⟩) rfl rfl (by decide) ?_)) | (apply z2c; (refine z05 (z29 (z1n (by omega) (by omega))) (by first | exact rfl | exact ⟨_, rfl, rfl, rfl⟩) rfl rfl (by decide) ?_)))))
     all_goals try (exfalso; omega)
     all_goals refine z34 601 603 rfl (z0s (z0s (z0s hG1 (by simp)) (by simp)) (by simp)) (Or.inl rfl) rfl (Quiet.upd (Quiet.upd (Quiet.upd hQ1 rfl) rfl) rfl) ?_
     all_goals refine z34 602 604 rfl (z0s (z0s (z0s (z0s hG2 (by simp)) (by simp)) (by simp)) (by simp)) (Or.inr rfl) rfl (Quiet.upd (Quiet.upd (Quiet.upd (Quiet.upd hQ2 rfl) rfl) rfl) rfl) ?_
     all_goals refine z4l 600 0 600 (raw := bbx 603 604) rfl rfl rfl rfl rfl ?_
     all_goals refine z0r Tryz.func120 _ (z30 rfl rfl rfl rfl rfl rfl) ⟨rfl, rfl⟩
   · rw [if_neg hsm] at i2
     by_cases hpl : mx < 0 ∧ n' = 0
     · rw [if_pos (by simp [hpl.1, hpl.2])] at i2
       have hbp := hbl.plus
       obtain ⟨s3, _, _⟩ := hbp.sm s1 (by show t1.lv.length ≤ 64; omega)
       have hlk := zmj (X := 600) (Y := 601) (Z := 602) (by decide) t1.fo q.l q.f ql qf (by rw [s2.len]; omega) s2.sm 0
       have hcc := zf2 (X := 600) (Y := 601) (Z := 602) (by decide) (lnk q.l q.f 0 t1.fo) p q pf pl qf ql (by have := s3.len; show (link t1 q.l q.f).fo.length ≤ 64; rw [this]; show t1.lv.length ≤ 64; omega) s3.sm t1.lv 0
       have ih' := ih (i + 1, (z7p p q (link t1 q.l q.f)).1, (z7p p q (link t1 q.l q.f)).2) ⟨by simp only; omega, by simp only; rw [hn2]; exact i2, ⟨_, i3.cat hbp⟩, by simp only; rw [hn2]; show (t1.lv.length : Int) + _ ≤ _; omega⟩ (by simp only; omega)
       repeat' (first | (apply z0c; (first | refine z7r hk1 rfl rfl rfl (by decide) rfl rfl rfl (by decide) rfl rfl rfl rfl ?_ | refine z0v rfl (by decide) ?_ | (apply z09; (first | refine z00 (z0g rfl rfl rfl rfl) rfl rfl (by decide) ?_ | refine z00 (z0q rfl rfl) rfl rfl (by decide) ?_ | refine z00 (z14 rfl rfl rfl rfl) rfl rfl (by decide) ?_)) | (apply z0h; (refine z00 (z04 rfl rfl) rfl rfl (by decide) ?_)) | (apply z0n; (refine z00 (z0i (ys := [rx5 ok mk xk rk kk]) rfl (by omega) rfl rfl) rfl rfl (by decide) ?_)) | (apply z18; (first | refine z00 (z11 (z1n (by omega) (by omega))) rfl rfl (by decide) ?_ | refine z00 (z29 (z1n (by omega) (by omega))) rfl rfl (by decide) ?_)) | (apply z1a; (refine z00 (z6a rfl) rfl rfl (by decide) ?_)) | (apply z16; (first | refine zdg hlk rfl rfl rfl (by decide) ?_ | refine zdg hcc rfl rfl rfl (by decide) ?_)) | (apply z0f; (refine z08 rfl rfl rfl rfl rfl rfl ?_)) | (apply z0l; (refine z07 (z0k rfl rfl (by decide)) ?_)) | (apply z0z; (refine z10 rfl rfl rfl rfl rfl rfl rfl (by decide) ?_)))) | (apply z0b; (first | refine z0u ?_ | apply z0a | refine z3v rfl rfl (by decide) ?_ | refine z1h rfl rfl (fun _ => ?_) (fun _ => ?_))) | (apply z0d; (first | apply z0e | apply z01 | refine z0m rfl ?_ | apply z06 | apply z02 | apply z3c | apply z03 | refine z1j rfl (fun _ => ?_) (fun _ => ?_) | refine z0j rfl ?_)) | (apply z3b; (first | refine z3g rfl (by first | exact rfl | exact ⟨_, rfl, rfl, rfl⟩) (by decide) ?_ | (apply z0x; (first | refine z05 (z0g rfl rfl rfl rfl) (by first | exact rfl | exact ⟨_, rfl, rfl, rfl⟩) rfl rfl (by decide) ?_ | refine z05 (z0q rfl rfl) (by first | exact rfl | exact ⟨_, rfl, rfl, rfl⟩) rfl rfl (by decide) ?_ | refine z05 (z14 rfl rfl rfl rfl) (by first | exact rfl | exact ⟨_, rfl, rfl, rfl⟩) rfl rfl (by decide) ?_)) | (apply z0w; (refine z05 (z04 rfl rfl) (by first | exact rfl | exact ⟨_, rfl, rfl, rfl⟩) rfl rfl (by decide) ?_)) | (apply z1g; (refine z05 (z0i (ys := [rx5 ok mk xk rk kk]) rfl (by omega) rfl rfl) (by first | exact rfl | exact ⟨_, rfl, rfl, rfl⟩) rfl rfl (by decide) ?_)) | (apply z2c; (refine z05 (z29 (z1n (by omega) (by omega))) (by first | exact rfl | exact ⟨_, rfl, rfl, rfl⟩) rfl rfl (by decide) ?_)))))
       all_goals try (exfalso; omega)
       all_goals exact z0o ih' rfl rfl
     · rw [if_neg (by simpa using hpl)] at i2
       have hcc := zf2 (X := 600) (Y := 601) (Z := 602) (by decide) t1.fo p q pf pl qf ql (by rw [s2.len]; omega) s2.sm t1.lv 0
       have ih' := ih (i + 1, (z7p p q t1).1, (z7p p q t1).2) ⟨by simp only; omega, by simp only; rw [hn2]; exact i2, ⟨_, i3.cat hbl⟩, by simp only; rw [hn2]; show (t1.lv.length : Int) + _ ≤ _; omega⟩ (by simp only; omega)
       repeat' (first | (apply z0c; (first | refine z7r hk1 rfl rfl rfl (by decide) rfl rfl rfl (by decide) rfl rfl rfl rfl ?_ | refine z0v rfl (by decide) ?_ | (apply z09; (first | refine z00 (z0g rfl rfl rfl rfl) rfl rfl (by decide) ?_ | refine z00 (z0q rfl rfl) rfl rfl (by decide) ?_ | refine z00 (z14 rfl rfl rfl rfl) rfl rfl (by decide) ?_)) | (apply z0h; (refine z00 (z04 rfl rfl) rfl rfl (by decide) ?_)) | (apply z0n; (refine z00 (z0i (ys := [rx5 ok mk xk rk kk]) rfl (by omega) rfl rfl) rfl rfl (by decide) ?_)) | (apply z18; (first | refine z00 (z11 (z1n (by omega) (by omega))) rfl rfl (by decide) ?_ | refine z00 (z29 (z1n (by omega) (by omega))) rfl rfl (by decide) ?_)) | (apply z1a; (refine z00 (z6a rfl) rfl rfl (by decide) ?_)) | (apply z16; (refine zdg hcc rfl rfl rfl (by decide) ?_)) | (apply z0f; (refine z08 rfl rfl rfl rfl rfl rfl ?_)) | (apply z0l; (refine z07 (z0k rfl rfl (by decide)) ?_)) | (apply z0z; (refine z10 rfl rfl rfl rfl rfl rfl rfl (by decide) ?_)))) | (apply z0b; (first | refine z0u ?_ | apply z0a | refine z3v rfl rfl (by decide) ?_ | refine z1h rfl rfl (fun _ => ?_) (fun _ => ?_))) | (apply z0d; (first | apply z0e | apply z01 | refine z0m rfl ?_ | apply z06 | apply z02 | apply z3c | apply z03 | refine z1j rfl (fun _ => ?_) (fun _ => ?_) | refine z0j rfl ?_)) | (apply z3b; (first | refine z3g rfl (by first | exact rfl | exact ⟨_, rfl, rfl, rfl⟩) (by decide) ?_ | (apply z0x; (first | refine z05 (z0g rfl rfl rfl rfl) (by first | exact rfl | exact ⟨_, rfl, rfl, rfl⟩) rfl rfl (by decide) ?_ | refine z05 (z0q rfl rfl) (by first | exact rfl | exact ⟨_, rfl, rfl, rfl⟩) rfl rfl (by decide) ?_ | refine z05 (z14 rfl rfl rfl rfl) (by first | exact rfl | exact ⟨_, rfl, rfl, rfl⟩) rfl rfl (by decide) ?_)) | (apply z0w; (refine z05 (z04 rfl rfl) (by first | exact rfl | exact ⟨_, rfl, rfl, rfl⟩) rfl rfl (by decide) ?_)) | (apply z1g; (refine z05 (z0i (ys := [rx5 ok mk xk rk kk]) rfl (by omega) rfl rfl) (by first | exact rfl | exact ⟨_, rfl, rfl, rfl⟩) rfl rfl (by decide) ?_)) | (apply z2c; (refine z05 (z29 (z1n (by omega) (by omega))) (by first | exact rfl | exact ⟨_, rfl, rfl, rfl⟩) rfl rfl (by decide) ?_)))))
       all_goals try (exfalso; omega)
       all_goals exact z0o ih' rfl rfl
 · obtain rfl : i = mn.toNat := by omega
   rw [Nat.sub_self, rpl] at i2
   rw [← i2] at hF'
   simp only [Bool.false_eq_true, if_false] at hF'
   rw [Nat.sub_self] at i4
   have i4' : (t'.lv.length : Int) ≤ t.lv.length + mn * pn (.mk ok mk xk rk kk) := by simpa using i4
   by_cases hA : mx < 0 ∧ mn = 0
   · rw [if_pos hA] at hF'
     have hre : rep mn mx (pn (.mk ok mk xk rk kk)) = pn (.mk ok mk xk rk kk) := by
      rw [rep, if_pos (by omega), hA.2, show max (0 : Int) 1 = 1 by decide, Int.mul_one]
     rw [hre] at hl
     rw [hA.2, Int.zero_mul] at i4'
     have hbl := hko.bl t' s1.len
     have hfw := hko.few t' s1.len
     obtain ⟨s2, qf, ql⟩ := hbl.sm s1 (by omega)
     have hk1 := hk t' s1 (by omega)
     generalize hB : bd (.mk ok mk xk rk kk) t' = r1 at *
     obtain ⟨t1, q⟩ := r1
     have hfw2 : (t1.lv.length : Int) ≤ t'.lv.length + pn (.mk ok mk xk rk kk) := hfw
     rw [z5j] at hk1
     dsimp only [zfs, hks] at hk1
     have hlk := zmj (X := 600) (Y := 601) (Z := 602) (by decide) t1.fo q.l q.f ql qf (by rw [s2.len]; omega) s2.sm 0
     rw [← hF']
     repeat' (first | (apply z0c; (first | refine z7r hk1 rfl rfl rfl (by decide) rfl rfl rfl (by decide) rfl rfl rfl rfl ?_ | refine z0v rfl (by decide) ?_ | (apply z09; (first | refine z00 (z0g rfl rfl rfl rfl) rfl rfl (by decide) ?_ | refine z00 (z0q rfl rfl) rfl rfl (by decide) ?_ | refine z00 (z14 rfl rfl rfl rfl) rfl rfl (by decide) ?_)) | (apply z0h; (refine z00 (z04 rfl rfl) rfl rfl (by decide) ?_)) | (apply z0n; (refine z00 (z0i (ys := [rx5 ok mk xk rk kk]) rfl (by omega) rfl rfl) rfl rfl (by decide) ?_)) | (apply z18; (refine z00 (z29 (z1n (by omega) (by omega))) rfl rfl (by decide) ?_)) | (apply z1a; (refine z00 (z1p rfl) rfl rfl (by decide) ?_)) | (apply z16; (refine zdg hlk rfl rfl rfl (by decide) ?_)) | (apply z0f; (refine z08 rfl rfl rfl rfl rfl rfl ?_)) | (apply z0l; (refine z07 (z0k rfl rfl (by decide)) ?_)) | (apply z0z; (refine z10 rfl rfl rfl rfl rfl rfl rfl (by decide) ?_)))) | (apply z0b; (first | refine z0u ?_ | apply z0a | refine z3v rfl rfl (by decide) ?_ | refine z1h rfl rfl (fun _ => ?_) (fun _ => ?_))) | (apply z0d; (first | apply z0e | apply z01 | refine z0m rfl ?_ | apply z06 | apply z02 | apply z3c | apply z03 | refine z1j rfl (fun _ => ?_) (fun _ => ?_) | refine z0j rfl ?_)) | (apply z3b; (first | refine z3g rfl (by first | exact rfl | exact ⟨_, rfl, rfl, rfl⟩) (by decide) ?_ | (apply z0x; (first | refine z05 (z0g rfl rfl rfl rfl) (by first | exact rfl | exact ⟨_, rfl, rfl, rfl⟩) rfl rfl (by decide) ?_ | refine z05 (z0q rfl rfl) (by first | exact rfl | exact ⟨_, rfl, rfl, rfl⟩) rfl rfl (by decide) ?_ | refine z05 (z14 rfl rfl rfl rfl) (by first | exact rfl | exact ⟨_, rfl, rfl, rfl⟩) rfl rfl (by decide) ?_)) | (apply z0w; (refine z05 (z04 rfl rfl) (by first | exact rfl | exact ⟨_, rfl, rfl, rfl⟩) rfl rfl (by decide) ?_)) | (apply z1g; (refine z05 (z0i (ys := [rx5 ok mk xk rk kk]) rfl (by omega) rfl rfl) (by first | exact rfl | exact ⟨_, rfl, rfl, rfl⟩) rfl rfl (by decide) ?_)) | (apply z2c; (refine z05 (z29 (z1n (by omega) (by omega))) (by first | exact rfl | exact ⟨_, rfl, rfl, rfl⟩) rfl rfl (by decide) ?_)))))
     all_goals try (exfalso; omega)
     all_goals refine z34 601 603 rfl (z0s (z0s (z0s hG1 (by simp)) (by simp)) (by simp)) (Or.inl rfl) rfl (Quiet.upd (Quiet.upd (Quiet.upd hQ1 rfl) rfl) rfl) ?_
     all_goals refine z34 602 604 rfl (z0s (z0s (z0s (z0s hG2 (by simp)) (by simp)) (by simp)) (by simp)) (Or.inr rfl) rfl (Quiet.upd (Quiet.upd (Quiet.upd (Quiet.upd hQ2 rfl) rfl) rfl) rfl) ?_
     all_goals refine z4l 600 0 600 (raw := bbx 603 604) rfl rfl rfl rfl rfl ?_
     all_goals refine z0r Tryz.func120 _ (z30 rfl rfl rfl rfl rfl rfl) ⟨rfl, rfl⟩
   · rw [if_neg hA] at hF'
     by_cases hC : mn < mx
     · rw [if_pos hC] at hF'
       have hre : rep mn mx (pn (.mk ok mk xk rk kk)) = mn * pn (.mk ok mk xk rk kk) + ((mx - mn).toNat : Int) * pn (.mk ok mk xk rk kk) := by
        rw [rep, if_neg (by omega), ← Int.add_mul, Int.mul_comm]; congr 1; omega
       have ho := zce (.mk ok mk xk rk kk) hvk hk (mx - mn).toNat t' s1 (by omega) (by omega)
       have hos := zaj hko hP (mx - mn).toNat t' s1.len
       obtain ⟨s2, qf, ql⟩ := hos.1.sm s1 (by omega)
       generalize hB : opt (bd (.mk ok mk xk rk kk)) (mx - mn).toNat t' = r1 at *
       obtain ⟨t1, q⟩ := r1
       have hfw2 : (t1.lv.length : Int) ≤ t'.lv.length + ((mx - mn).toNat : Int) * pn (.mk ok mk xk rk kk) := hos.2
       have hcc := zf2 (X := 600) (Y := 603) (Z := 604) (by decide) t1.fo p q pf pl qf ql (by rw [s2.len]; omega) s2.sm t1.lv 0
       rw [z5j, show (((mx - mn).toNat : Nat) : Int) = mx - mn by omega] at ho
       dsimp only [zfs, hks] at ho
       rw [← hF']
       repeat' (first | (apply z0c; (first | refine z0v rfl (by decide) ?_ | (apply z09; (first | refine z00 (z0g rfl rfl rfl rfl) rfl rfl (by decide) ?_ | refine z00 (z0q rfl rfl) rfl rfl (by decide) ?_ | refine z00 (z14 rfl rfl rfl rfl) rfl rfl (by decide) ?_)) | (apply z0h; (refine z00 (z04 rfl rfl) rfl rfl (by decide) ?_)) | (apply z0n; (refine z00 (z0i (ys := [rx5 ok mk xk rk kk]) rfl (by omega) rfl rfl) rfl rfl (by decide) ?_)) | (apply z1a; (refine z00 (z1p rfl) rfl rfl (by decide) ?_)) | (apply z0f; (refine z08 rfl rfl rfl rfl rfl rfl ?_)))) | (apply z0b; (first | refine z0u ?_ | apply z0a | refine z3v rfl rfl (by decide) ?_ | refine z1h rfl rfl (fun _ => ?_) (fun _ => ?_))) | (apply z0d; (first | apply z0e | apply z01 | refine z0m rfl ?_ | apply z06 | apply z02 | apply z3c | apply z03 | refine z1j rfl (fun _ => ?_) (fun _ => ?_) | refine z0j rfl ?_)) | (apply z3b; (first | (apply z1k; refine z2a mix (by kernel_rfl) ?_) | refine zs1 ho (by first | exact rfl | exact ⟨_, rfl, rfl, rfl⟩) rfl rfl rfl (by decide) rfl rfl rfl (by decide) ?_ | refine z3g rfl (by first | exact rfl | exact ⟨_, rfl, rfl, rfl⟩) (by decide) ?_ | (apply z0x; (first | refine z05 (z0g rfl rfl rfl rfl) (by first | exact rfl | exact ⟨_, rfl, rfl, rfl⟩) rfl rfl (by decide) ?_ | refine z05 (z0q rfl rfl) (by first | exact rfl | exact ⟨_, rfl, rfl, rfl⟩) rfl rfl (by decide) ?_ | refine z05 (z14 rfl rfl rfl rfl) (by first | exact rfl | exact ⟨_, rfl, rfl, rfl⟩) rfl rfl (by decide) ?_)) | (apply z0w; (refine z05 (z04 rfl rfl) (by first | exact rfl | exact ⟨_, rfl, rfl, rfl⟩) rfl rfl (by decide) ?_)) | (apply z1g; (refine z05 (z0i (ys := [rx5 ok mk xk rk kk]) rfl (by omega) rfl rfl) (by first | exact rfl | exact ⟨_, rfl, rfl, rfl⟩) rfl rfl (by decide) ?_)) | (apply z2c; (refine z05 (z29 (z1n (by omega) (by omega))) (by first | exact rfl | exact ⟨_, rfl, rfl, rfl⟩) rfl rfl (by decide) ?_)) | (apply z3k; (refine zh5 hcc (by first | exact rfl | exact ⟨_, rfl, rfl, rfl⟩) rfl rfl rfl (by decide) ?_)) | (apply z3i; (refine z4t (by first | exact rfl | exact ⟨_, rfl, rfl, rfl⟩) rfl rfl rfl rfl rfl rfl ?_)))))
       all_goals try (exfalso; omega)
       all_goals refine z34 603 603 rfl (z0s (z0s (z0s hG1 (by simp)) (by simp)) (by simp)) (Or.inl rfl) rfl (Quiet.upd (Quiet.upd (Quiet.upd hQ1 rfl) rfl) rfl) ?_
       all_goals refine z34 604 604 rfl (z0s (z0s (z0s (z0s hG2 (by simp)) (by simp)) (by simp)) (by simp)) (Or.inr rfl) rfl (Quiet.upd (Quiet.upd (Quiet.upd (Quiet.upd hQ2 rfl) rfl) rfl) rfl) ?_
       all_goals refine z4l 600 0 600 (raw := bbx 603 604) rfl rfl rfl rfl rfl ?_
       all_goals refine z0r Tryz.func120 _ (z30 rfl rfl rfl rfl rfl rfl) ⟨rfl, rfl⟩
     · rw [if_neg hC] at hF'
       rw [← hF']
       repeat' (first | (apply z0c; (first | refine z0v rfl (by decide) ?_ | (apply z09; (first | refine z00 (z0g rfl rfl rfl rfl) rfl rfl (by decide) ?_ | refine z00 (z14 rfl rfl rfl rfl) rfl rfl (by decide) ?_)) | (apply z0h; (refine z00 (z04 rfl rfl) rfl rfl (by decide) ?_)) | (apply z1a; (refine z00 (z1p rfl) rfl rfl (by decide) ?_)) | (apply z0f; (refine z08 rfl rfl rfl rfl rfl rfl ?_)))) | (apply z0b; (first | refine z0u ?_ | apply z0a | refine z3v rfl rfl (by decide) ?_ | refine z1h rfl rfl (fun _ => ?_) (fun _ => ?_))) | (apply z0d; (first | apply z0e | apply z01 | refine z0m rfl ?_ | apply z06 | apply z02 | apply z3c | apply z03 | refine z1j rfl (fun _ => ?_) (fun _ => ?_) | refine z0j rfl ?_)) | (apply z3b; (first | refine z3g rfl (by first | exact rfl | exact ⟨_, rfl, rfl, rfl⟩) (by decide) ?_ | (apply z0x; (first | refine z05 (z0g rfl rfl rfl rfl) (by first | exact rfl | exact ⟨_, rfl, rfl, rfl⟩) rfl rfl (by decide) ?_ | refine z05 (z14 rfl rfl rfl rfl) (by first | exact rfl | exact ⟨_, rfl, rfl, rfl⟩) rfl rfl (by decide) ?_)) | (apply z0w; (refine z05 (z04 rfl rfl) (by first | exact rfl | exact ⟨_, rfl, rfl, rfl⟩) rfl rfl (by decide) ?_)))))
       all_goals try (exfalso; omega)
       all_goals refine z34 601 603 rfl (z0s (z0s (z0s hG1 (by simp)) (by simp)) (by simp)) (Or.inl rfl) rfl (Quiet.upd (Quiet.upd (Quiet.upd hQ1 rfl) rfl) rfl) ?_
       all_goals refine z34 602 604 rfl (z0s (z0s (z0s (z0s hG2 (by simp)) (by simp)) (by simp)) (by simp)) (Or.inr rfl) rfl (Quiet.upd (Quiet.upd (Quiet.upd (Quiet.upd hQ2 rfl) rfl) rfl) rfl) ?_
       all_goals refine z4l 600 0 600 (raw := bbx 603 604) rfl rfl rfl rfl rfl ?_
       all_goals refine z0r Tryz.func120 _ (z30 rfl rfl rfl rfl rfl rfl) ⟨rfl, rfl⟩
end Go.Proofs.YthdfkabdoidjfaaGreatDoor
namespace Go.Proofs.YthdfkabdoidjfaaGreatDoor
open Go.Ab Go.Rx
set_option maxHeartbeats 20000000
set_option maxRecDepth 100000
attribute [local irreducible] Run Ops Op1 z2f Val Tr z1f z2d NF Rel z47 z48 zd5
theorem zdv : ∀ {ks : List Rx}, zct ks = true → ∀ i, 0 ≤ pnL (ks.drop i)
 | ks, h, 0 => zc9.2 ks h
 | [], h, i + 1 => Int.le_refl _
 | k :: ks, h, i + 1 => by
  rw [zct, Bool.and_eq_true] at h
  exact zdv h.2 i
theorem zor (mn mx : Int) (rs : List Rg) (ks : List Rx) (t : Tb) (hs : Sm t) (hl : (t.lv.length : Int) + 1 ≤ 64) : zfs 105 [.d (Drx (.mk 1 mn mx rs ks))] t (bd (.mk 1 mn mx rs ks) t) := by
 rw [bd, if_pos rfl, z5j]
 have hsh := zux (i := t.lv.length) (by omega)
 have e1 : (t.lv.map lv1).length = t.lv.length := List.length_map _
 have e2 := hs.len
 refine z84 fun H hH hG1 hG2 hQ1 hQ2 => ?_
 have hH0 := hH ((0, 600), bbx 601 602) (by simp)
 have hH1 := hH ((0, 601), lvr t.lv) (by simp)
 have hH2 := hH ((0, 602), fwr t.fo) (by simp)
 refine z4n Tryz.func105 (by kernel_rfl) rfl (by simp) ?_
 dsimp only [Tryz.f105]
 refine z7d 600 0 600 hH0 rfl rfl ?_
 refine z3t 601 0 601 (z0s hH1 (by simp)) rfl rfl ?_
 refine z3t 602 0 602 (z0s (z0s hH2 (by simp)) (by simp)) rfl rfl ?_
 refine z4j 100601 rfl ?_
 refine z4j 100602 rfl ?_
 repeat' (first | (apply z0c; (first | refine z0v rfl (by decide) ?_ | (apply z09; (refine z00 (z0g rfl rfl rfl rfl) rfl rfl (by decide) ?_)) | (apply z0h; (refine z00 (z04 rfl rfl) rfl rfl (by decide) ?_)) | (apply z18; (refine z00 (zr8 (by omega)) rfl rfl (by decide) ?_)) | (apply z1a; (first | refine z1u (g := n64) rfl rfl 0 rfl rfl rfl rfl rfl rfl rfl (by decide) (by omega) ?_ | refine z00 (z6a rfl) rfl rfl (by decide) ?_)) | (apply z0f; (refine z08 rfl rfl rfl rfl rfl rfl ?_)) | (apply z0l; (refine z07 (z0k rfl rfl (by decide)) ?_)) | (apply z2b; (refine z07 (z4c rfl rfl (by decide)) ?_)) | (apply z0z; (refine z10 rfl rfl rfl rfl rfl rfl rfl (by decide) ?_)) | (apply z2j; (refine z2q rfl rfl rfl rfl rfl rfl rfl rfl (by decide) ?_)))) | (apply z0b; (first | refine z0u ?_ | apply z0a)) | (apply z0d; (first | apply z0e | apply z01 | refine z1d rfl ?_ | apply z02 | apply z3c)) | (apply z3b; (first | refine z3g rfl (by first | exact rfl | exact ⟨_, rfl, rfl, rfl⟩) (by decide) ?_ | (apply z0x; (refine z05 (z0g rfl rfl rfl rfl) (by first | exact rfl | exact ⟨_, rfl, rfl, rfl⟩) rfl rfl (by decide) ?_)) | (apply z0w; (refine z05 (z04 rfl rfl) (by first | exact rfl | exact ⟨_, rfl, rfl, rfl⟩) rfl rfl (by decide) ?_)) | (apply z6m; (refine za7 (g := lv1) (by first | exact rfl | exact ⟨_, rfl, rfl, rfl⟩) rfl rfl rs rfl rfl rfl rfl rfl rfl rfl (by decide) (by omega) ?_)) | (apply z3i; ((refine zqn mix (by kernel_rfl) ?_) /- zfy -/)) | (apply z8n; (refine zdh (by first | exact rfl | exact ⟨_, rfl, rfl, rfl⟩) rfl rfl rfl rfl rfl rfl rfl rfl (by decide) ?_)))))
 all_goals try (exfalso; omega)
 all_goals refine z34 31 603 rfl (z0s (z0s (z0s hG1 (by simp)) (by simp)) (by simp)) (Or.inl rfl) rfl (Quiet.upd (Quiet.upd (Quiet.upd hQ1 rfl) rfl) rfl) ?_
 all_goals refine z34 40 604 rfl (z0s (z0s (z0s (z0s hG2 (by simp)) (by simp)) (by simp)) (by simp)) (Or.inr rfl) rfl (Quiet.upd (Quiet.upd (Quiet.upd (Quiet.upd hQ2 rfl) rfl) rfl) rfl) ?_
 all_goals refine z4l 600 0 600 (raw := bbx 603 604) rfl rfl rfl rfl rfl ?_
 refine z0r Tryz.func105 _ (z30 rfl rfl rfl rfl rfl rfl) ⟨by dsimp only [ptc]; rw [← hsh, ← e1]; rfl, rfl⟩
theorem bd2 (mn mx : Int) (rs : List Rg) (ks : List Rx) (t : Tb) : bd (.mk 2 mn mx rs ks) t = bdC ks t ptE := by rw [bd, if_neg (by decide), if_pos rfl]
theorem bd3 (mn mx : Int) (rs : List Rg) (ks : List Rx) (t : Tb) : bd (.mk 3 mn mx rs ks) t = bdU ks t ptN := by rw [bd, if_neg (by decide), if_neg (by decide), if_pos rfl]
theorem zpe (mn mx : Int) (rs : List Rg) (ks : List Rx) (hlen : ks.length ≤ 9223372036854775807) (hv : zct ks = true) (hk : ∀ k ∈ ks, KB k) (t : Tb) (hs : Sm t) (hl : (t.lv.length : Int) + pnL ks ≤ 64) : zfs 105 [.d (Drx (.mk 2 mn mx rs ks))] t (bd (.mk 2 mn mx rs ks) t) := by
 rw [bd2, z5j]
 obtain ⟨F, hF⟩ : ∃ F, bdC ks t ptE = F := ⟨_, rfl⟩
 rw [hF]
 refine z84 fun H hH hG1 hG2 hQ1 hQ2 => ?_
 have hH0 := hH ((0, 600), bbx 601 602) (by simp)
 have hH1 := hH ((0, 601), lvr t.lv) (by simp)
 have hH2 := hH ((0, 602), fwr t.fo) (by simp)
 refine z4n Tryz.func105 (by kernel_rfl) rfl (by simp) ?_
 dsimp only [Tryz.f105]
 refine z7d 600 0 600 hH0 rfl rfl ?_
 refine z3t 601 0 601 (z0s hH1 (by simp)) rfl rfl ?_
 refine z3t 602 0 602 (z0s (z0s hH2 (by simp)) (by simp)) rfl rfl ?_
 refine z4j 100601 rfl ?_
 refine z4j 100602 rfl ?_
 repeat' (first | (apply z0c; (first | refine z0v rfl (by decide) ?_ | (apply z09; (refine z00 (z0g rfl rfl rfl rfl) rfl rfl (by decide) ?_)) | (apply z0h; (refine z00 (z04 rfl rfl) rfl rfl (by decide) ?_)) | (apply z1a; (refine z00 (z1r rfl) rfl rfl (by decide) ?_)) | (apply z0f; (refine z08 rfl rfl rfl rfl rfl rfl ?_)) | (apply z0l; (refine z07 (z0k rfl rfl (by decide)) ?_)) | (apply z2b; (refine z07 (z4c rfl rfl (by decide)) ?_)) | (apply z0z; (refine z10 rfl rfl rfl rfl rfl rfl rfl (by decide) ?_)))) | (apply z0b; (first | refine z0u ?_ | apply z0a)) | (apply z0d; (first | apply z0e | apply z01 | refine z1d rfl ?_ | refine z0m rfl ?_ | apply z02)))
 all_goals try (exfalso; omega)
 refine z1q ?_
 refine z0o (z2r (fun q : Nat × Tb × Pt => ⟨98, [(0, .ptr (0, 600) 0), (3, .ptr (0, 3) 0), (4, .ptr (0, 4) 0), (6, .ptr (0, 6) 0), (50, .d (.slice (ks.map rxc))), (51, I .i64 ks.length), (52, I .i64 (q.1 : Nat)), (100600, .al (0, 600) (1, 600))], [(4, ptb ptN), (6, ptb q.2.2), (600, bbx 601 602), (601, lvr q.2.1.lv), (602, fwr q.2.1.fo)], U3 H⟩)
  (fun q => q.1 ≤ ks.length ∧ bdC (ks.drop q.1) q.2.1 q.2.2 = F ∧ (∃ Z, Bl O1 Z t q.2.1 q.2.2) ∧ (q.2.1.lv.length : Int) + pnL (ks.drop q.1) ≤ 64) (fun q => ks.length - q.1) ?_ (0, t, ptE) ⟨Nat.zero_le _, hF, ⟨_, Bl.eps (Ex.refl hs.len)⟩, hl⟩) rfl rfl
 rintro ⟨i, t', p⟩ ⟨i1, i2, ⟨Z, i3⟩, i4⟩ ih
 simp only at i1 i2 i3 i4 ih ⊢
 by_cases hlt : i < ks.length
 · obtain ⟨k, hki⟩ : ∃ k, ks[i]? = some k := ⟨_, List.getElem?_eq_getElem hlt⟩
   have hmem := List.mem_of_getElem? hki
   have hvk := z4v hv k hmem
   have hP := zc9.1 k hvk
   have hPr : 0 ≤ pnL (ks.drop (i + 1)) := zdv hv (i + 1)
   rw [drop_cons hki, pnL] at i4
   rw [drop_cons hki, bdC] at i2
   obtain ⟨s1, pf, pl⟩ := i3.sm hs (by omega)
   have hko := ztr hvk
   have hbl := hko.bl t' s1.len
   have hfw := hko.few t' s1.len
   obtain ⟨s2, qf, ql⟩ := hbl.sm s1 (by omega)
   have hk1 := hk k hmem t' s1 (by omega)
   generalize hB : bd k t' = r1 at *
   obtain ⟨t1, q⟩ := r1
   have hfw2 : (t1.lv.length : Int) ≤ t'.lv.length + pn k := hfw
   obtain ⟨ok, mk, xk, rk, kk⟩ := k
   rw [z5j] at hk1
   dsimp only [zfs, hks] at hk1
   have hcc := zf2 (X := 600) (Y := 603) (Z := 604) (by decide) t1.fo p q pf pl qf ql (by rw [s2.len]; omega) s2.sm t1.lv 0
   have ih' := ih (i + 1, (z7p p q t1).1, (z7p p q t1).2) ⟨by simp only; omega, i2, ⟨_, i3.cat hbl⟩, by show (t1.lv.length : Int) + _ ≤ _; simp only; omega⟩ (by simp only; omega)
   repeat' (first | (apply z0c; (first | refine z0v rfl (by decide) ?_ | (apply z09; (first | refine z00 (z0q rfl rfl) rfl rfl (by decide) ?_ | refine z00 (z14 rfl rfl rfl rfl) rfl rfl (by decide) ?_)) | (apply z0n; (refine z00 (z0i (ys := ks.map rxc) rfl (by omega) (za4 hki) rfl) rfl rfl (by decide) ?_)) | (apply z18; (refine z00 (z11 (z1n (by omega) (by omega))) rfl rfl (by decide) ?_)) | (apply z0f; (refine z08 rfl rfl rfl rfl rfl rfl ?_)) | (apply z0l; (refine z07 (z0k rfl rfl (by decide)) ?_)))) | (apply z0b; (first | refine z0u ?_ | apply z0a)) | (apply z0d; (first | apply z0e | apply z01 | apply z06 | apply z02 | apply z3c | apply z03 | refine z1j rfl (fun _ => ?_) (fun _ => ?_) | refine z0j rfl ?_)) | (apply z3b; (first | (apply z1k; refine z2a mix (by kernel_rfl) ?_) | refine zs1 hk1 (by first | exact rfl | exact ⟨_, rfl, rfl, rfl⟩) rfl rfl rfl (by decide) rfl rfl rfl (by decide) ?_ | refine z3g rfl (by first | exact rfl | exact ⟨_, rfl, rfl, rfl⟩) (by decide) ?_ | (apply z0x; (refine z05 (z14 rfl rfl rfl rfl) (by first | exact rfl | exact ⟨_, rfl, rfl, rfl⟩) rfl rfl (by decide) ?_)) | (apply z3k; (refine zh5 hcc (by first | exact rfl | exact ⟨_, rfl, rfl, rfl⟩) rfl rfl rfl (by decide) ?_)) | (apply z3i; (refine z4t (by first | exact rfl | exact ⟨_, rfl, rfl, rfl⟩) rfl rfl rfl rfl rfl rfl ?_)))))
   all_goals try (exfalso; omega)
   all_goals refine z2h 603 601 rfl rfl ?_
   all_goals refine z2h 604 602 rfl rfl ?_
   all_goals exact z0o ih' rfl rfl
 · obtain rfl : i = ks.length := by omega
   rw [List.drop_length, bdC] at i2
   rw [← i2]
   repeat' (first | (apply z0c; (first | refine z0v rfl (by decide) ?_ | (apply z09; (refine z00 (z14 rfl rfl rfl rfl) rfl rfl (by decide) ?_)) | (apply z0f; (refine z08 rfl rfl rfl rfl rfl rfl ?_)))) | (apply z0b; (first | refine z0u ?_ | apply z0a)) | (apply z0d; (first | apply z0e | apply z01 | apply z06 | apply z02 | refine z1j rfl (fun _ => ?_) (fun _ => ?_) | refine z0j rfl ?_)))
   all_goals try (exfalso; omega)
   all_goals refine z34 601 603 rfl (z0s (z0s (z0s hG1 (by simp)) (by simp)) (by simp)) (Or.inl rfl) rfl (Quiet.upd (Quiet.upd (Quiet.upd hQ1 rfl) rfl) rfl) ?_
   all_goals refine z34 602 604 rfl (z0s (z0s (z0s (z0s hG2 (by simp)) (by simp)) (by simp)) (by simp)) (Or.inr rfl) rfl (Quiet.upd (Quiet.upd (Quiet.upd (Quiet.upd hQ2 rfl) rfl) rfl) rfl) ?_
   all_goals refine z4l 600 0 600 (raw := bbx 603 604) rfl rfl rfl rfl rfl ?_
   all_goals refine z0r Tryz.func105 _ (z30 rfl rfl rfl rfl rfl rfl) ⟨rfl, rfl⟩
theorem zon (mn mx : Int) (rs : List Rg) (ks : List Rx) (hlen : ks.length ≤ 9223372036854775807) (hv : zct ks = true) (hk : ∀ k ∈ ks, KB k) (t : Tb) (hs : Sm t) (hl : (t.lv.length : Int) + pnL ks ≤ 64) : zfs 105 [.d (Drx (.mk 3 mn mx rs ks))] t (bd (.mk 3 mn mx rs ks) t) := by
 rw [bd3, z5j]
 obtain ⟨F, hF⟩ : ∃ F, bdU ks t ptN = F := ⟨_, rfl⟩
 rw [hF]
 refine z84 fun H hH hG1 hG2 hQ1 hQ2 => ?_
 have hH0 := hH ((0, 600), bbx 601 602) (by simp)
 have hH1 := hH ((0, 601), lvr t.lv) (by simp)
 have hH2 := hH ((0, 602), fwr t.fo) (by simp)
 refine z4n Tryz.func105 (by kernel_rfl) rfl (by simp) ?_
 dsimp only [Tryz.f105]
 refine z7d 600 0 600 hH0 rfl rfl ?_
 refine z3t 601 0 601 (z0s hH1 (by simp)) rfl rfl ?_
 refine z3t 602 0 602 (z0s (z0s hH2 (by simp)) (by simp)) rfl rfl ?_
 refine z4j 100601 rfl ?_
 refine z4j 100602 rfl ?_
 repeat' (first | (apply z0c; (first | refine z0v rfl (by decide) ?_ | (apply z09; (refine z00 (z0g rfl rfl rfl rfl) rfl rfl (by decide) ?_)) | (apply z0h; (refine z00 (z04 rfl rfl) rfl rfl (by decide) ?_)) | (apply z1a; (refine z00 (z1r rfl) rfl rfl (by decide) ?_)) | (apply z0l; (refine z07 (z0k rfl rfl (by decide)) ?_)) | (apply z2b; (refine z07 (z4c rfl rfl (by decide)) ?_)))) | (apply z0b; (first | refine z0u ?_ | apply z0a)) | (apply z0d; (first | apply z0e | apply z01 | refine z1d rfl ?_ | refine z0m rfl ?_ | apply z02)))
 all_goals try (exfalso; omega)
 refine z1q ?_
 refine z0o (z2r (fun q : Nat × Tb × Pt => ⟨98, [(0, .ptr (0, 600) 0), (3, .ptr (0, 3) 0), (4, .ptr (0, 4) 0), (9, .ptr (0, 9) 0), (67, .d (.slice (ks.map rxc))), (68, I .i64 ks.length), (69, I .i64 (q.1 : Nat)), (100600, .al (0, 600) (1, 600))], [(4, ptb ptN), (9, ptb q.2.2), (600, bbx 601 602), (601, lvr q.2.1.lv), (602, fwr q.2.1.fo)], U3 H⟩)
  (fun q => q.1 ≤ ks.length ∧ bdU (ks.drop q.1) q.2.1 q.2.2 = F ∧ (∃ Z, Bl O1 Z t q.2.1 q.2.2) ∧ (q.2.1.lv.length : Int) + pnL (ks.drop q.1) ≤ 64) (fun q => ks.length - q.1) ?_ (0, t, ptN) ⟨Nat.zero_le _, hF, ⟨_, Bl.none (Ex.refl hs.len)⟩, hl⟩) rfl rfl
 rintro ⟨i, t', p⟩ ⟨i1, i2, ⟨Z, i3⟩, i4⟩ ih
 simp only at i1 i2 i3 i4 ih ⊢
 by_cases hlt : i < ks.length
 · obtain ⟨k, hki⟩ : ∃ k, ks[i]? = some k := ⟨_, List.getElem?_eq_getElem hlt⟩
   have hmem := List.mem_of_getElem? hki
   have hvk := z4v hv k hmem
   have hP := zc9.1 k hvk
   have hPr : 0 ≤ pnL (ks.drop (i + 1)) := zdv hv (i + 1)
   rw [drop_cons hki, pnL] at i4
   rw [drop_cons hki, bdU] at i2
   obtain ⟨s1, pf, pl⟩ := i3.sm hs (by omega)
   have hko := ztr hvk
   have hbl := hko.bl t' s1.len
   have hfw := hko.few t' s1.len
   obtain ⟨s2, qf, ql⟩ := hbl.sm s1 (by omega)
   have hk1 := hk k hmem t' s1 (by omega)
   generalize hB : bd k t' = r1 at *
   obtain ⟨t1, q⟩ := r1
   have hfw2 : (t1.lv.length : Int) ≤ t'.lv.length + pn k := hfw
   obtain ⟨ok, mk, xk, rk, kk⟩ := k
   rw [z5j] at hk1
   dsimp only [zfs, hks] at hk1
   have ih' := ih (i + 1, t1, por p q) ⟨by simp only; omega, i2, ⟨_, i3.or hbl⟩, by simp only; omega⟩ (by simp only; omega)
   obtain ⟨qf', ql', qn⟩ := q
   obtain ⟨pf', pl', pnn⟩ := p
   dsimp only [por, ptb] at ih' qf ql pf pl ⊢
   have ho1 := zsv pf qf
   have ho2 := zsv pl ql
   cases pnn with
   | true =>
    rw [Bool.true_or] at ih'
    repeat' (first | (apply z0c; (first | refine z7r hk1 rfl rfl rfl (by decide) rfl rfl rfl (by decide) rfl rfl rfl rfl ?_ | refine z0v rfl (by decide) ?_ | (apply z09; (first | refine z00 (z0g rfl rfl rfl rfl) rfl rfl (by decide) ?_ | refine z00 (z0q rfl rfl) rfl rfl (by decide) ?_ | refine z00 (z14 rfl rfl rfl rfl) rfl rfl (by decide) ?_)) | (apply z0h; (refine z00 (z04 rfl rfl) rfl rfl (by decide) ?_)) | (apply z0n; (refine z00 (z0i (ys := ks.map rxc) rfl (by omega) (za4 hki) rfl) rfl rfl (by decide) ?_)) | (apply z18; (first | refine z00 zc8 rfl rfl (by decide) ?_ | refine z00 (z11 (z1n (by omega) (by omega))) rfl rfl (by decide) ?_)) | (apply z0f; (refine z08 rfl rfl rfl rfl rfl rfl ?_)) | (apply z0l; (refine z07 (z0k rfl rfl (by decide)) ?_)) | (apply z0z; (refine z10 rfl rfl rfl rfl rfl rfl rfl (by decide) ?_)))) | (apply z0b; (first | refine z0u ?_ | apply z0a | refine z3v rfl rfl (by decide) ?_)) | (apply z0d; (first | apply z0e | apply z01 | apply z06 | apply z02 | apply z03 | refine z1j rfl (fun _ => ?_) (fun _ => ?_) | refine z0j rfl ?_)))
    all_goals try (exfalso; omega)
    all_goals (rw [← ho1, ← ho2] at ih'; exact z0o ih' rfl rfl)
   | false =>
    rw [Bool.false_or] at ih'
    repeat' (first | (apply z0c; (first | refine z7r hk1 rfl rfl rfl (by decide) rfl rfl rfl (by decide) rfl rfl rfl rfl ?_ | refine z0v rfl (by decide) ?_ | (apply z09; (first | refine z00 (z0g rfl rfl rfl rfl) rfl rfl (by decide) ?_ | refine z00 (z0q rfl rfl) rfl rfl (by decide) ?_ | refine z00 (z14 rfl rfl rfl rfl) rfl rfl (by decide) ?_)) | (apply z0h; (refine z00 (z04 rfl rfl) rfl rfl (by decide) ?_)) | (apply z0n; (refine z00 (z0i (ys := ks.map rxc) rfl (by omega) (za4 hki) rfl) rfl rfl (by decide) ?_)) | (apply z18; (first | refine z00 zc8 rfl rfl (by decide) ?_ | refine z00 (z11 (z1n (by omega) (by omega))) rfl rfl (by decide) ?_)) | (apply z0f; (refine z08 rfl rfl rfl rfl rfl rfl ?_)) | (apply z0l; (refine z07 (z0k rfl rfl (by decide)) ?_)) | (apply z0z; (refine z10 rfl rfl rfl rfl rfl rfl rfl (by decide) ?_)))) | (apply z0b; (first | refine z0u ?_ | apply z0a)) | (apply z0d; (first | apply z0e | apply z01 | apply z06 | apply z02 | apply z03 | refine z1j rfl (fun _ => ?_) (fun _ => ?_) | refine z0j rfl ?_)))
    all_goals try (exfalso; omega)
    all_goals (rw [← ho1, ← ho2] at ih'; exact z0o ih' rfl rfl)
 · obtain rfl : i = ks.length := by omega
   rw [List.drop_length, bdU] at i2
   rw [← i2]
   repeat' (first | (apply z0c; (first | refine z0v rfl (by decide) ?_ | (apply z09; (refine z00 (z14 rfl rfl rfl rfl) rfl rfl (by decide) ?_)) | (apply z0f; (refine z08 rfl rfl rfl rfl rfl rfl ?_)))) | (apply z0b; (first | refine z0u ?_ | apply z0a)) | (apply z0d; (first | apply z0e | apply z01 | apply z06 | apply z02 | refine z1j rfl (fun _ => ?_) (fun _ => ?_) | refine z0j rfl ?_)))
   all_goals try (exfalso; omega)
   all_goals refine z34 601 603 rfl (z0s (z0s (z0s hG1 (by simp)) (by simp)) (by simp)) (Or.inl rfl) rfl (Quiet.upd (Quiet.upd (Quiet.upd hQ1 rfl) rfl) rfl) ?_
   all_goals refine z34 602 604 rfl (z0s (z0s (z0s (z0s hG2 (by simp)) (by simp)) (by simp)) (by simp)) (Or.inr rfl) rfl (Quiet.upd (Quiet.upd (Quiet.upd (Quiet.upd hQ2 rfl) rfl) rfl) rfl) ?_
   all_goals refine z4l 600 0 600 (raw := bbx 603 604) rfl rfl rfl rfl rfl ?_
   all_goals refine z0r Tryz.func105 _ (z30 rfl rfl rfl rfl rfl rfl) ⟨rfl, rfl⟩
theorem zod (op mn mx : Int) (rs : List Rg) (ks : List Rx) (h1 : op ≠ 1) (h2 : op ≠ 2) (h3 : op ≠ 3) (t : Tb) (r : Tb × Pt) (hr : zfs 120 [.d (Drx (.mk op mn mx rs ks))] t r) : zfs 105 [.d (Drx (.mk op mn mx rs ks))] t r := by
 rw [z5j] at hr ⊢
 dsimp only [zfs, hks] at hr
 refine z84 fun H hH hG1 hG2 hQ1 hQ2 => ?_
 have hH0 := hH ((0, 600), bbx 601 602) (by simp)
 have hH1 := hH ((0, 601), lvr t.lv) (by simp)
 have hH2 := hH ((0, 602), fwr t.fo) (by simp)
 refine z4n Tryz.func105 (by kernel_rfl) rfl (by simp) ?_
 dsimp only [Tryz.f105]
 refine z7d 600 0 600 hH0 rfl rfl ?_
 refine z3t 601 0 601 (z0s hH1 (by simp)) rfl rfl ?_
 refine z3t 602 0 602 (z0s (z0s hH2 (by simp)) (by simp)) rfl rfl ?_
 refine z4j 100601 rfl ?_
 refine z4j 100602 rfl ?_
 repeat' (first | (apply z0c; (first | refine z7r hr rfl rfl rfl (by decide) rfl rfl rfl (by decide) rfl rfl rfl rfl ?_ | refine z0v rfl (by decide) ?_ | (apply z09; (first | refine z00 (z2i rfl rfl rfl) rfl rfl (by decide) ?_ | refine z00 (z0g rfl rfl rfl rfl) rfl rfl (by decide) ?_)) | (apply z0h; (refine z00 (z04 rfl rfl) rfl rfl (by decide) ?_)) | (apply z1a; (first | refine z00 (z1r rfl) rfl rfl (by decide) ?_ | refine z00 (z1p rfl) rfl rfl (by decide) ?_)) | (apply z0f; (refine z08 rfl rfl rfl rfl rfl rfl ?_)) | (apply z0l; (refine z07 (z0k rfl rfl (by decide)) ?_)) | (apply z2b; (refine z07 (z4c rfl rfl (by decide)) ?_)) | (apply z0z; (refine z10 rfl rfl rfl rfl rfl rfl rfl (by decide) ?_)))) | (apply z0b; (first | refine z0u ?_ | apply z0a)) | (apply z0d; (first | apply z0e | apply z01 | apply z06 | apply z02 | apply z03 | refine z1j rfl (fun _ => ?_) (fun _ => ?_))))
 all_goals try (exfalso; omega)
 all_goals refine z34 601 603 rfl (z0s (z0s (z0s hG1 (by simp)) (by simp)) (by simp)) (Or.inl rfl) rfl (Quiet.upd (Quiet.upd (Quiet.upd hQ1 rfl) rfl) rfl) ?_
 all_goals refine z34 602 604 rfl (z0s (z0s (z0s (z0s hG2 (by simp)) (by simp)) (by simp)) (by simp)) (Or.inr rfl) rfl (Quiet.upd (Quiet.upd (Quiet.upd (Quiet.upd hQ2 rfl) rfl) rfl) rfl) ?_
 all_goals refine z4l 600 0 600 (raw := bbx 603 604) rfl rfl rfl rfl rfl ?_
 all_goals refine z0r Tryz.func105 _ (z30 rfl rfl rfl rfl rfl rfl) ⟨rfl, rfl⟩
/-- build adds the leaves of a valid expression -/
theorem zs6 : ∀ e : Rx, vns e = true → fit e → KB e := by
 refine Rx.ind' fun op mn mx rs ks ih hv hf t hs hl => ?_
 rw [vns, Bool.and_eq_true] at hv
 rw [fit] at hf
 have ih' : ∀ k ∈ ks, KB k := fun k hk => ih k hk (z4v hv.2 k hk) (z8c hf.2.2 k hk)
 have hvn := hv.1
 rw [vn] at hvn
 by_cases h1 : op = 1
 · subst h1
   rw [Rx.pn, if_pos rfl] at hl
   exact zor mn mx rs ks t hs hl
 rw [if_neg h1] at hvn
 by_cases h2 : op = 2
 · subst h2
   rw [Rx.pn, if_neg (by decide), if_neg (by decide)] at hl
   exact zpe mn mx rs ks hf.2.1 hv.2 ih' t hs hl
 rw [if_neg h2] at hvn
 by_cases h3 : op = 3
 · subst h3
   rw [Rx.pn, if_neg (by decide), if_neg (by decide)] at hl
   exact zon mn mx rs ks hf.2.1 hv.2 ih' t hs hl
 rw [if_neg h3] at hvn
 by_cases h4 : op = 4
 · subst h4
   rw [if_pos rfl] at hvn
   simp only [Bool.and_eq_true, Bool.or_eq_true, decide_eq_true_eq] at hvn
   obtain ⟨⟨⟨⟨a1, a2⟩, a3⟩, a4⟩, a5⟩ := hvn
   match ks, a2, ih', hv, hl with
   | [k], _, ih', hv, hl =>
    have hvk := z4v hv.2 k (by simp)
    rw [Rx.pn, if_neg (by decide), if_pos rfl, pnL, pnL, Int.add_zero] at hl
    have hb : bd (.mk 4 mn mx rs [k]) t = rp (bd k) mn mx t := by
     rw [bd, if_neg (by decide), if_neg (by decide), if_neg (by decide)]
     have : (fun t => bd1 [k] t) = bd k := by funext t; rw [bd1]
     rw [this]
    rw [hb]
    exact zod 4 mn mx rs [k] (by decide) (by decide) (by decide) t _ (zvh 4 mn mx rs k hvk (ih' k (by simp)) a3 a4 a5 t hs hl)
 · rw [if_neg h4] at hvn; cases hvn
end Go.Proofs.YthdfkabdoidjfaaGreatDoor
namespace Go.Proofs.YthdfkabdoidjfaaGreatDoor
open Go.Ab Go.Rx
set_option maxHeartbeats 20000000
set_option maxRecDepth 100000
attribute [local irreducible] Run Ops Op1 z2f Val Tr z1f z2d NF Rel z47 z48 zd5
abbrev tb0 : Tb := ⟨[], []⟩
/-- the table of an expression, as it lies in memory -/
abbrev ofB (e : Rx) : Blk := tbx (bd e tb0).1.lv (bd e tb0).2.f (bd e tb0).2.l (bd e tb0).1.fo (bd e tb0).2.nu
theorem zye (e : Rx) (hv : vns e = true) (hf : fit e) (hp : Rx.pn e ≤ 64) (H : Hf) : Ab.Spec Tryz.prog 57 [.d (Drx e)] H (fun r H' => r = .new (ofB e) ∧ H' = H) := by
 have hk := zs6 e hv hf tb0 ⟨rfl, by simp⟩ (by simp; exact hp)
 dsimp only [ofB]
 generalize hB : bd e tb0 = r1 at *
 obtain ⟨⟨lv, fo⟩, p⟩ := r1
 obtain ⟨op, mn, mx, rs, ks⟩ := e
 rw [z5j] at hk ⊢
 dsimp only [zfs, hks] at hk
 refine z0t Tryz.func57 (by kernel_rfl) rfl (by simp) ?_
 dsimp only [Tryz.f57]
 repeat' (first | (apply z0c; (first | refine z7r hk rfl rfl rfl (by decide) rfl rfl rfl (by decide) rfl rfl rfl rfl ?_ | refine z0v rfl (by decide) ?_ | (apply z09; (refine z00 (z14 rfl rfl rfl rfl) rfl rfl (by decide) ?_)) | (apply z0f; (refine z08 rfl rfl rfl rfl rfl rfl ?_)) | (apply z0l; (refine z07 (z0k rfl rfl (by decide)) ?_)) | (apply z2b; (first | (refine z07 (z2k rfl rfl rfl rfl rfl (by decide)) ?_; refine zs0 6 600 rfl rfl ?_; refine zcl 600 0 601 41 1 rfl rfl rfl rfl ?_; refine zcl 600 3 602 76 1 rfl rfl rfl rfl ?_) | refine z07 (z4c rfl rfl (by decide)) ?_)) | (apply z0z; (refine z10 rfl rfl rfl rfl rfl rfl rfl (by decide) ?_)))) | (apply z0b; (first | refine z0u ?_ | apply z0a)) | (apply z0d; (first | apply z0e | apply z01 | apply z3c)) | (apply z3b; (first | (apply z1k; refine z2a mix (by kernel_rfl) ?_) | refine z3g rfl (by first | exact rfl | exact ⟨_, rfl, rfl, rfl⟩) (by decide) ?_ | (apply z0x; (refine z05 (z0g rfl rfl rfl rfl) (by first | exact rfl | exact ⟨_, rfl, rfl, rfl⟩) rfl rfl (by decide) ?_)) | (apply z0w; (refine z05 (z04 rfl rfl) (by first | exact rfl | exact ⟨_, rfl, rfl, rfl⟩) rfl rfl (by decide) ?_)) | (apply z3i; (refine z4t (by first | exact rfl | exact ⟨_, rfl, rfl, rfl⟩) rfl rfl rfl rfl rfl rfl ?_)))))
 all_goals try (exfalso; omega)
 refine z1z 601 rfl ?_
 refine z1z 602 rfl ?_
 refine z0r Tryz.func57 _ (zrb (ms := 600) rfl rfl rfl rfl) ⟨rfl, rfl⟩
end Go.Proofs.YthdfkabdoidjfaaGreatDoor
