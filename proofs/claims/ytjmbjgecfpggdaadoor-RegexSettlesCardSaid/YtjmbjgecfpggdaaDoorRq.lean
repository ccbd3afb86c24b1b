/- A part of the proof: G22, G23, G24, G25, G26, G27, G28. -/
import Derived.Test.YtjmbjgecfpggdaaDoorRt
import Derived.Test.YtjmbjgecfpggdaaDoorRc
import Derived.Test.YtjmbjgecfpggdaaDoorRx
set_option linter.all false
set_option linter.unusedVariables false
set_option linter.unusedSimpArgs false
namespace Go.Proofs.YtjmbjgecfpggdaaDoor
open Go.Ab Go.Rx
set_option maxHeartbeats 20000000
set_option maxRecDepth 100000
set_option linter.unusedVariables false
set_option linter.unusedSimpArgs false
set_option linter.unusedSectionVars false
attribute [local irreducible] Run Ops Op1 Does Val Tr PureF Eff1 NF Rel EffV EffM
abbrev n64 (x : Nat) : List D := [Du64 (x : Nat)]
abbrev lvs (l : List (List Rg)) : D := .slice (l.map fun r => [rgs r])
/-- a table of leaves in memory -/
abbrev tbx (lv : List (List Rg)) (f l : Nat) (fo : List Nat) (nu : Bool) : Blk := .box [.d (lvs lv), I .u64 (f : Nat), I .u64 (l : Nat), .d (.slice (fo.map n64)), B nu]
theorem idx64 {l : List Nat} {k : Nat} {x : Nat} (h : l[k]? = some x) : (l.map n64)[((k : Nat) : Int).toNat]? = some (n64 x) := by simp [h]
theorem next64_s {X : Nat} (lv : List (List Rg)) (f l : Nat) (fo : List Nat) (nu : Bool) (S : Nat) (hS : S < 2 ^ 64) (hfo : fo.length ≤ 64) (hfx : ∀ x ∈ fo, x < 2 ^ 64) (beg : Bool) (e0 : Nat) :
    Eff1 Tryd.prog 46 [.ptr (e0, X) 0, I .u64 (S : Nat), B beg] [((e0, X), tbx lv f l fo nu)] [] (I .u64 ((if beg = true then f else nxF S 0 0 fo : Nat) : Int)) := by
  refine eff_of fun H hH => ?_
  have hX : H e0 X = some (tbx lv f l fo nu) := hH ((e0, X), tbx lv f l fo nu) (by simp)
  refine spec_of Tryd.func46 (by kernel_rfl) rfl (by simp) ?_
  dsimp only [Tryd.f46]
  cases beg with
  | true =>
    rw [if_pos rfl]
    repeat' (first | (refine k_op1 ?_; (first | refine o_sv rfl (by decide) ?_ | (refine k_load ?_; (refine o_loadu rfl hX rfl rfl rfl rfl (by decide) ?_)) | (refine k_field ?_; (refine o_val (v_field rfl rfl) rfl rfl (by decide) ?_)))) | (refine k_ops ?_; (first | refine o_go (by first | exact .inl rfl | exact .inr ⟨_, _, _, rfl, rfl, rfl⟩) ?_ | refine o_nil ?_)) | (refine k_run ?_; (first | refine r_seq ?_ | refine r_region ?_ | refine r_true rfl ?_)))
    all_goals try (exfalso; omega)
    all_goals exact r_ret Tryd.func46 _ (res_one rfl rfl) ⟨rfl, rfl⟩
  | false =>
    rw [if_neg (by decide)]
    repeat' (first | (refine k_op1 ?_; (first | refine o_sv rfl (by decide) ?_ | (refine k_load ?_; (refine o_loadu rfl hX rfl rfl rfl rfl (by decide) ?_)) | (refine k_field ?_; (refine o_val (v_field rfl rfl) rfl rfl (by decide) ?_)) | (refine k_blt ?_; (refine o_val (v_lenm rfl) rfl rfl (by decide) ?_)))) | (refine k_ops ?_; (first | refine o_go (by first | exact .inl rfl | exact .inr ⟨_, _, _, rfl, rfl, rfl⟩) ?_ | refine o_nil ?_)) | (refine k_run ?_; (first | refine r_seq ?_ | refine r_region ?_ | refine r_false rfl ?_ | refine r_skip ?_ | refine r_block ?_)))
    all_goals try (exfalso; omega)
    refine r_loop ?_
    refine r_less (r_inv (fun q : Nat × Nat => ⟨35, [(1, I .u64 (S : Nat)), (18, .d (.slice (fo.map n64))), (19, I .i64 fo.length), (20, I .i64 (q.1 : Nat)), (7, I .u64 (q.2 : Nat))], [], H⟩) (fun q => q.1 ≤ fo.length ∧ q.2 < 2 ^ 64 ∧ nxF S q.1 q.2 (fo.drop q.1) = nxF S 0 0 fo) (fun q => fo.length - q.1) ?_ (0, 0) ⟨Nat.zero_le _, by decide, rfl⟩) rfl rfl
    rintro ⟨q, acc⟩ ⟨i1, i2, i3⟩ ih
    simp only at i1 i2 i3 ih ⊢
    by_cases hlt : q < fo.length
    · obtain ⟨x, hx⟩ : ∃ x, fo[q]? = some x := ⟨_, List.getElem?_eq_getElem hlt⟩
      have hxl := hfx x (List.mem_of_getElem? hx)
      rw [drop_cons hx, nxF] at i3
      have hb := bit64 (i := q) hS (by omega)
      have ho := or64 i2 hxl
      by_cases ht : S.testBit q = true
      · rw [if_pos ht] at i3 hb
        repeat' (first | (refine k_op1 ?_; (first | refine o_sv rfl (by decide) ?_ | (refine k_load ?_; (refine o_val (v_loade rfl rfl rfl) rfl rfl (by decide) ?_)) | (refine k_index ?_; (refine o_val (v_index (ys := fo.map n64) rfl (by omega) (idx64 hx) rfl) rfl rfl (by decide) ?_)) | (refine k_bin ?_; (first | refine o_val (v_shr (by omega)) rfl rfl (by decide) ?_ | refine o_val v_band rfl rfl (by decide) ?_ | refine o_val v_bor rfl rfl (by decide) ?_ | refine o_val (v_add (wi64 (by omega) (by omega))) rfl rfl (by decide) ?_)))) | (refine k_ops ?_; (first | refine o_go (by first | exact .inl rfl | exact .inr ⟨_, _, _, rfl, rfl, rfl⟩) ?_ | refine o_nil ?_)) | (refine k_run ?_; (first | refine r_seq ?_ | refine r_region ?_ | refine r_skip ?_ | refine r_block ?_ | refine r_inBlock ?_ | refine r_if rfl (fun _ => ?_) (fun _ => ?_) | refine r_exit rfl ?_)))
        all_goals try (exfalso; omega)
        all_goals (rw [ho]; exact r_less (ih (q + 1, acc ||| x) ⟨by simp only; omega, Nat.or_lt_two_pow i2 hxl, i3⟩ (by simp only; omega)) rfl rfl)
      · rw [if_neg ht] at i3 hb
        repeat' (first | (refine k_op1 ?_; (first | refine o_sv rfl (by decide) ?_ | (refine k_load ?_; (refine o_val (v_loade rfl rfl rfl) rfl rfl (by decide) ?_)) | (refine k_index ?_; (refine o_val (v_index (ys := fo.map n64) rfl (by omega) (idx64 hx) rfl) rfl rfl (by decide) ?_)) | (refine k_bin ?_; (first | refine o_val (v_shr (by omega)) rfl rfl (by decide) ?_ | refine o_val v_band rfl rfl (by decide) ?_ | refine o_val v_bor rfl rfl (by decide) ?_ | refine o_val (v_add (wi64 (by omega) (by omega))) rfl rfl (by decide) ?_)))) | (refine k_ops ?_; (first | refine o_go (by first | exact .inl rfl | exact .inr ⟨_, _, _, rfl, rfl, rfl⟩) ?_ | refine o_nil ?_)) | (refine k_run ?_; (first | refine r_seq ?_ | refine r_region ?_ | refine r_skip ?_ | refine r_block ?_ | refine r_inBlock ?_ | refine r_if rfl (fun _ => ?_) (fun _ => ?_) | refine r_exit rfl ?_)))
        all_goals try (exfalso; omega)
        all_goals exact r_less (ih (q + 1, acc) ⟨by simp only; omega, i2, i3⟩ (by simp only; omega)) rfl rfl
    · obtain rfl : q = fo.length := by omega
      rw [List.drop_length, nxF] at i3
      rw [← i3]
      repeat' (first | (refine k_op1 ?_; (refine o_sv rfl (by decide) ?_)) | (refine k_ops ?_; (first | refine o_go (by first | exact .inl rfl | exact .inr ⟨_, _, _, rfl, rfl, rfl⟩) ?_ | refine o_nil ?_)) | (refine k_run ?_; (first | refine r_seq ?_ | refine r_region ?_ | refine r_skip ?_ | refine r_block ?_ | refine r_if rfl (fun _ => ?_) (fun _ => ?_) | refine r_exit rfl ?_)))
      all_goals try (exfalso; omega)
      all_goals exact r_ret Tryd.func46 _ (res_one rfl rfl) ⟨rfl, rfl⟩
end Go.Proofs.YtjmbjgecfpggdaaDoor
namespace Go.Proofs.YtjmbjgecfpggdaaDoor
open Go.Ab Go.Rx
set_option maxHeartbeats 20000000
set_option maxRecDepth 100000
set_option linter.unusedVariables false
set_option linter.unusedSimpArgs false
set_option linter.unusedSectionVars false
attribute [local irreducible] Run Ops Op1 Does Val Tr PureF Eff1 NF Rel EffV EffM
/-- a table that is being built: its rows bear the names Y (leaves) and Z (what follows) -/
abbrev bbx (Y Z : Nat) : Blk := .box [.ref (0, Y), I .u64 0, I .u64 0, .ref (0, Z), B false]
theorem lnk_len (a b : Nat) : ∀ (l : List Nat) (i : Nat), (lnk a b i l).length = l.length
  | [], _ => rfl
  | x :: l, i => by rw [lnk, List.length_cons, List.length_cons, lnk_len a b l]
theorem lnk_get (a b : Nat) : ∀ (l : List Nat) (i q : Nat) (x : Nat), l[q]? = some x → (lnk a b i l)[q]? = some (if a.testBit (i + q) = true then x ||| b else x)
  | y :: l, i, 0, x, h => by simp at h; subst h; rw [lnk]; simp
  | y :: l, i, q + 1, x, h => by
    rw [List.getElem?_cons_succ] at h
    rw [lnk, List.getElem?_cons_succ, lnk_get a b l (i + 1) q x h, show i + 1 + q = i + (q + 1) by omega]
theorem lnk_step {L fo : List Nat} {q v x : Nat} (hL : L[q]? = some v) (hx : fo[q]? = some x) : (L.take q ++ fo.drop q).set q v = L.take (q + 1) ++ fo.drop (q + 1) := by
  have hq := (List.getElem?_eq_some_iff.1 hL).1
  have hl : (L.take q).length = q := by rw [List.length_take]; omega
  rw [drop_cons hx, take_succ' hL, List.append_assoc, List.set_append_right _ _ (by omega), hl, Nat.sub_self]
  rfl
theorem o_rstoreu {P : Program} {f : FuncId} {R : Post} {k : List Item} {all : Array Oper} {l : List Oper} {n : Nat} {tm : List (Nat × PV)} {hp : Hp} {up : Hf} {ty : TypeId} {pos : String} {aft : Array Edge} {gd : Option (Nat × Bool)} {t e : TypeId} {ti : TI} {x y : Operand} {md ms kk i off : Nat} {p : PV} {ys ys' : List (List D)} {z : List D} {ps : List PV} {ds : List D} [ht : HasT P t ti] (hev : St.evs ⟨n, tm, hp, up⟩ [x, y] = some [.rptr (md + 1, ms) kk i off, p]) (hb : up md ms = some (.row e kk ys)) (hp' : cellsOf p = some ps) (hds : allD ps = some ds)
    (hz : ys[i]? = some z) (hs : ds.length = ti.size) (hf : decide (off + ds.length ≤ kk) = true) (hys : ys.set i (splice z off ds) = ys') (h : Ops P f R all l k ⟨n, tm, hp, upd up (md, ms) (.row e kk ys')⟩) : Op1 P f R all ⟨none, .store t x y, ty, pos, aft, gd⟩ l k ⟨n, tm, hp, up⟩ :=
  o_rstore (m := (md + 1, ms)) hev hb hp' hds hz hs hf hys rfl h
theorem link_s {X Y Z : Nat} (hXZ : X ≠ Z) (fo : List Nat) (a b : Nat) (ha : a < 2 ^ 64) (hb : b < 2 ^ 64) (hfo : fo.length ≤ 64) (hfx : ∀ x ∈ fo, x < 2 ^ 64) (e0 : Nat) :
    Eff1 Tryd.prog 78 [.ptr (e0, X) 0, I .u64 (a : Nat), I .u64 (b : Nat)] [((e0, X), bbx Y Z), ((e0, Z), .row 77 1 (fo.map n64))] [((e0, Z), .row 77 1 ((lnk a b 0 fo).map n64))] (.tup []) := by
  refine eff_of fun H hH => ?_
  have hX : H e0 X = some (bbx Y Z) := hH ((e0, X), bbx Y Z) (by simp)
  have hZ : H e0 Z = some (.row 77 1 (fo.map n64)) := hH ((e0, Z), .row 77 1 (fo.map n64)) (by simp)
  have hZ' : H (0 + e0) Z = some (.row 77 1 (fo.map n64)) := by rw [Nat.zero_add]; exact hZ
  have hll : (lnk a b 0 fo).length = fo.length := lnk_len a b fo 0
  refine spec_of Tryd.func78 (by kernel_rfl) rfl (by simp) ?_
  dsimp only [Tryd.f78]
  repeat' (first | (refine k_op1 ?_; (first | refine o_sv rfl (by decide) ?_ | (refine k_load ?_; (refine o_loadu rfl hX rfl rfl rfl rfl (by decide) ?_)) | (refine k_field ?_; (refine o_val (v_field rfl rfl) rfl rfl (by decide) ?_)) | (refine k_blt ?_; (refine o_val (v_lenrm rfl) rfl (bkN hZ') (by decide) ?_)))) | (refine k_ops ?_; (first | refine o_go (by first | exact .inl rfl | exact .inr ⟨_, _, _, rfl, rfl, rfl⟩) ?_ | refine o_nil ?_)) | (refine k_run ?_; (first | refine r_seq ?_ | refine r_region ?_ | refine r_block ?_)))
  all_goals try (exfalso; omega)
  refine r_loop ?_
  refine r_upid (m := (0 + e0, Z)) hZ' ?_
  refine r_less (r_inv (fun q : Nat => ⟨31, [(0, .ptr (e0 + 1, X) 0), (1, I .u64 (a : Nat)), (2, I .u64 (b : Nat)), (11, I .i64 fo.length), (12, I .i64 (q : Nat))], [], upd H (0 + e0, Z) (.row 77 1 (((lnk a b 0 fo).take q ++ fo.drop q).map n64))⟩) (fun q => q ≤ fo.length) (fun q => fo.length - q) ?_ 0 (Nat.zero_le _)) rfl rfl
  intro q i1 ih
  by_cases hlt : q < fo.length
  · obtain ⟨x, hx⟩ : ∃ x, fo[q]? = some x := ⟨_, List.getElem?_eq_getElem hlt⟩
    have hxl := hfx x (List.mem_of_getElem? hx)
    obtain ⟨W, hW⟩ : ∃ W, (lnk a b 0 fo).take q ++ fo.drop q = W := ⟨_, rfl⟩
    have hWq : W[q]? = some x := by rw [← hW, List.getElem?_append_right (by rw [List.length_take]; omega), List.length_take, hll, Nat.min_eq_left i1, Nat.sub_self, List.getElem?_drop]; exact hx
    have hXW : upd H (0 + e0, Z) (.row 77 1 (W.map n64)) e0 X = some (bbx Y Z) := upd_ne hX (by simp [hXZ])
    have hZW : upd H (0 + e0, Z) (.row 77 1 (W.map n64)) (0 + e0) Z = some (.row 77 1 (W.map n64)) := upd_same _ _ _
    have hWl : W.length = fo.length := by rw [← hW, List.length_append, List.length_take, List.length_drop, hll]; omega
    rw [hW]
    have hbt := bit64 (S := a) (i := q) ha (by omega)
    have hor := or64 hxl hb
    have hLg := lnk_get a b fo 0 q x hx
    rw [Nat.zero_add] at hLg
    have hst := lnk_step hLg hx
    rw [hW] at hst
    have ih' := ih (q + 1) (by omega) (by omega)
    rw [← hst] at ih'
    have hys : (W.map n64).set ((q : Nat) : Int).toNat [Du64 (orV .u64 (x : Nat) (b : Nat))] = (W.set q (x ||| b)).map n64 := by rw [hor, Int.toNat_natCast, List.map_set]
    have hidx : (W.map n64)[((q : Nat) : Int).toNat]? = some (n64 x) := idx64 hWq
    by_cases ht : a.testBit q = true
    · rw [if_pos ht] at hbt ih'
      repeat' (first | (refine k_op1 ?_; (first | refine o_sv rfl (by decide) ?_ | (refine k_load ?_; (first | refine o_val (v_rload hidx rfl rfl rfl) rfl (bkN hZW) (by decide) ?_ | refine o_loadu rfl hXW rfl rfl rfl rfl (by decide) ?_)) | (refine k_field ?_; (refine o_val (v_field rfl rfl) rfl rfl (by decide) ?_)) | (refine k_index ?_; (refine o_val (v_rindex rfl (by omega) (by rw [List.length_map]; omega) rfl) rfl (bkN hZW) (by decide) ?_)) | (refine k_bin ?_; (first | refine o_val (v_shr (by omega)) rfl rfl (by decide) ?_ | refine o_val v_band rfl rfl (by decide) ?_ | refine o_val v_bor rfl rfl (by decide) ?_ | refine o_val (v_add (wi64 (by omega) (by omega))) rfl rfl (by decide) ?_)) | (refine k_store ?_; (refine o_rstoreu (md := 0 + e0) (ms := Z) rfl hZW rfl rfl hidx rfl rfl hys ?_)))) | (refine k_ops ?_; (first | refine o_go (by first | exact .inl rfl | exact .inr ⟨_, _, _, rfl, rfl, rfl⟩) ?_ | refine o_nil ?_)) | (refine k_run ?_; (first | refine r_seq ?_ | refine r_region ?_ | refine r_skip ?_ | refine r_block ?_ | refine r_inBlock ?_ | refine r_if rfl (fun _ => ?_) (fun _ => ?_) | refine r_exit rfl ?_)))
      all_goals try (exfalso; omega)
      all_goals (rw [upd_upd']; exact r_less ih' rfl rfl)
    · rw [if_neg ht] at hbt ih'
      have hid : W.set q x = W := by
        obtain ⟨g1, g2⟩ := List.getElem?_eq_some_iff.1 hWq
        rw [← g2]; exact List.set_getElem_self g1
      rw [hid] at ih'
      repeat' (first | (refine k_op1 ?_; (first | refine o_sv rfl (by decide) ?_ | (refine k_field ?_; (refine o_val (v_field rfl rfl) rfl rfl (by decide) ?_)) | (refine k_bin ?_; (first | refine o_val (v_shr (by omega)) rfl rfl (by decide) ?_ | refine o_val v_band rfl rfl (by decide) ?_ | refine o_val (v_add (wi64 (by omega) (by omega))) rfl rfl (by decide) ?_)))) | (refine k_ops ?_; (first | refine o_go (by first | exact .inl rfl | exact .inr ⟨_, _, _, rfl, rfl, rfl⟩) ?_ | refine o_nil ?_)) | (refine k_run ?_; (first | refine r_seq ?_ | refine r_region ?_ | refine r_skip ?_ | refine r_block ?_ | refine r_inBlock ?_ | refine r_if rfl (fun _ => ?_) (fun _ => ?_) | refine r_exit rfl ?_)))
      all_goals try (exfalso; omega)
      all_goals exact r_less ih' rfl rfl
  · obtain rfl : q = fo.length := by omega
    rw [List.drop_length, List.append_nil, ← hll, List.take_length]
    repeat' (first | (refine k_op1 ?_; (refine o_sv rfl (by decide) ?_)) | (refine k_ops ?_; (first | refine o_go (by first | exact .inl rfl | exact .inr ⟨_, _, _, rfl, rfl, rfl⟩) ?_ | refine o_nil ?_)) | (refine k_run ?_; (first | refine r_seq ?_ | refine r_region ?_ | refine r_skip ?_ | refine r_block ?_ | refine r_if rfl (fun _ => ?_) (fun _ => ?_) | refine r_exit rfl ?_)))
    all_goals try (exfalso; omega)
    all_goals exact r_end Tryd.func78 _ (res_none rfl) ⟨rfl, by rw [Nat.zero_add]; rfl⟩
end Go.Proofs.YtjmbjgecfpggdaaDoor
namespace Go.Proofs.YtjmbjgecfpggdaaDoor
open Go.Ab Go.Rx
set_option maxHeartbeats 20000000
set_option maxRecDepth 100000
set_option linter.unusedVariables false
set_option linter.unusedSimpArgs false
set_option linter.unusedSectionVars false
attribute [local irreducible] Run Ops Op1 Does Val Tr PureF Eff1 NF Rel EffV EffM
theorem o_effz {P : Program} {f : FuncId} {R : Post} {k : List Item} {all : Array Oper} {l : List Oper} {n : Nat} {tm : List (Nat × PV)} {hp : Hp} {up : Hf} {d : Nat} {ty : TypeId} {pos : String} {aft : Array Edge} {gd : Option (Nat × Bool)} {p : PV} {g : FuncId} {args : List Operand} {ps : List PV} {ats : Array TypeId} {md m1 m2 : Nat} {b1 b2 b' : Blk}
    (hsp : Eff1 P g ps [((md + 1, m1), b1), ((md + 1, m2), b2)] [((md + 1, m2), b')] p) (hev : St.evs ⟨n, tm, hp, up⟩ args = some ps) (h1 : up md m1 = some b1) (h2 : up md m2 = some b2) (hd : d < n)
    (h : Ops P f R all l k ⟨n, (d, p) :: tm, hp, upd up (md, m2) b'⟩) : Op1 P f R all ⟨some d, .call ⟨.value (.func g), args.toArray, ats⟩, ty, pos, aft, gd⟩ l k ⟨n, tm, hp, up⟩ :=
  o_eff hsp hev (bk_cons (m := (md + 1, m1)) h1 (bk_cons (m := (md + 1, m2)) h2 bk_nil)) hd rfl h
abbrev ptc (p : Pt) : List D := [Du64 (p.f : Nat), Du64 (p.l : Nat), Dbool p.nu]
theorem ccat_s {X Y Z : Nat} (hXZ : X ≠ Z) (fo : List Nat) (a b : Pt) (ha1 : a.f < 2 ^ 64) (ha2 : a.l < 2 ^ 64) (hb1 : b.f < 2 ^ 64) (hb2 : b.l < 2 ^ 64) (hfo : fo.length ≤ 64) (hfx : ∀ x ∈ fo, x < 2 ^ 64) (lv : List (List Rg)) (e0 : Nat) :
    Eff1 Tryd.prog 67 [.ptr (e0, X) 0, .d (.agg (ptc a)), .d (.agg (ptc b))] [((e0, X), bbx Y Z), ((e0, Z), .row 77 1 (fo.map n64))] [((e0, Z), .row 77 1 ((lnk a.l b.f 0 fo).map n64))] (.d (.agg (ptc (ccat a b ⟨lv, fo⟩).2))) := by
  refine eff_of fun H hH => ?_
  have hX : H e0 X = some (bbx Y Z) := hH ((e0, X), bbx Y Z) (by simp)
  have hZ : H e0 Z = some (.row 77 1 (fo.map n64)) := hH ((e0, Z), .row 77 1 (fo.map n64)) (by simp)
  have hl := link_s (X := X) (Y := Y) (Z := Z) hXZ fo a.l b.f ha2 hb1 hfo hfx (e0 + 1)
  have ho1 := or64 ha1 hb1
  have ho2 := or64 hb2 ha2
  obtain ⟨af, al, an⟩ := a
  obtain ⟨bf, bl, bn⟩ := b
  refine spec_of Tryd.func67 (by kernel_rfl) rfl (by simp) ?_
  dsimp only [Tryd.f67, ccat]
  simp only at hl ho1 ho2
  cases an <;> cases bn <;> skip
  all_goals (try simp only [if_true, if_false, Bool.false_eq_true])
  all_goals (try rw [← ho1]) 
  all_goals (try rw [← ho2])
  · repeat' (first | (refine k_op1 ?_; (first | refine o_sv rfl (by decide) ?_ | (refine k_load ?_; (first | refine o_val (v_load rfl rfl rfl rfl) rfl rfl (by decide) ?_ | refine o_val (v_loadp rfl rfl rfl rfl) rfl rfl (by decide) ?_)) | (refine k_field ?_; (refine o_val (v_field rfl rfl) rfl rfl (by decide) ?_)) | (refine k_call ?_; (refine o_effz hl rfl hX hZ (by decide) ?_)) | (refine k_store ?_; (refine o_store0 rfl rfl rfl rfl rfl rfl ?_)) | (refine k_alloc ?_; (refine o_does (d_alloc rfl rfl (by decide)) ?_)) | (refine k_box ?_; (refine o_does (d_box_d rfl rfl (by decide)) ?_)) | (refine k_build ?_; (refine o_build rfl rfl rfl rfl rfl rfl rfl (by decide) ?_)))) | (refine k_ops ?_; (first | refine o_go (by first | exact .inl rfl | exact .inr ⟨_, _, _, rfl, rfl, rfl⟩) ?_ | refine o_nil ?_ | refine o_no rfl rfl (by decide) ?_)) | (refine k_run ?_; (first | refine r_seq ?_ | refine r_region ?_ | refine r_false rfl ?_ | refine r_skip ?_)))
    all_goals exact r_ret Tryd.func67 _ (res_cell rfl rfl rfl rfl rfl rfl) ⟨by first | rfl | (dsimp only [ptc]; rw [← ho2]; rfl) | (dsimp only [ptc]; rw [← ho1]; rfl) | (dsimp only [ptc]; rw [← ho1, ← ho2]; rfl), rfl⟩
  · repeat' (first | (refine k_op1 ?_; (first | refine o_sv rfl (by decide) ?_ | (refine k_load ?_; (first | refine o_val (v_load rfl rfl rfl rfl) rfl rfl (by decide) ?_ | refine o_val (v_loadp rfl rfl rfl rfl) rfl rfl (by decide) ?_)) | (refine k_field ?_; (refine o_val (v_field rfl rfl) rfl rfl (by decide) ?_)) | (refine k_bin ?_; (refine o_val v_bor rfl rfl (by decide) ?_)) | (refine k_call ?_; (refine o_effz hl rfl hX hZ (by decide) ?_)) | (refine k_store ?_; (refine o_store0 rfl rfl rfl rfl rfl rfl ?_)) | (refine k_alloc ?_; (refine o_does (d_alloc rfl rfl (by decide)) ?_)) | (refine k_box ?_; (refine o_does (d_box_d rfl rfl (by decide)) ?_)) | (refine k_build ?_; (refine o_build rfl rfl rfl rfl rfl rfl rfl (by decide) ?_)))) | (refine k_ops ?_; (first | refine o_go (by first | exact .inl rfl | exact .inr ⟨_, _, _, rfl, rfl, rfl⟩) ?_ | refine o_nil ?_ | refine o_no rfl rfl (by decide) ?_)) | (refine k_run ?_; (first | refine r_seq ?_ | refine r_region ?_ | refine r_true rfl ?_ | refine r_false rfl ?_ | refine r_skip ?_)))
    all_goals exact r_ret Tryd.func67 _ (res_cell rfl rfl rfl rfl rfl rfl) ⟨by first | rfl | (dsimp only [ptc]; rw [← ho2]; rfl) | (dsimp only [ptc]; rw [← ho1]; rfl) | (dsimp only [ptc]; rw [← ho1, ← ho2]; rfl), rfl⟩
  · repeat' (first | (refine k_op1 ?_; (first | refine o_sv rfl (by decide) ?_ | (refine k_load ?_; (first | refine o_val (v_load rfl rfl rfl rfl) rfl rfl (by decide) ?_ | refine o_val (v_loadp rfl rfl rfl rfl) rfl rfl (by decide) ?_)) | (refine k_field ?_; (refine o_val (v_field rfl rfl) rfl rfl (by decide) ?_)) | (refine k_bin ?_; (refine o_val v_bor rfl rfl (by decide) ?_)) | (refine k_call ?_; (refine o_effz hl rfl hX hZ (by decide) ?_)) | (refine k_store ?_; (refine o_store0 rfl rfl rfl rfl rfl rfl ?_)) | (refine k_alloc ?_; (refine o_does (d_alloc rfl rfl (by decide)) ?_)) | (refine k_box ?_; (refine o_does (d_box_d rfl rfl (by decide)) ?_)) | (refine k_build ?_; (refine o_build rfl rfl rfl rfl rfl rfl rfl (by decide) ?_)))) | (refine k_ops ?_; (first | refine o_go (by first | exact .inl rfl | exact .inr ⟨_, _, _, rfl, rfl, rfl⟩) ?_ | refine o_nil ?_)) | (refine k_run ?_; (first | refine r_seq ?_ | refine r_region ?_ | refine r_true rfl ?_ | refine r_false rfl ?_ | refine r_skip ?_)))
    all_goals exact r_ret Tryd.func67 _ (res_cell rfl rfl rfl rfl rfl rfl) ⟨by first | rfl | (dsimp only [ptc]; rw [← ho2]; rfl) | (dsimp only [ptc]; rw [← ho1]; rfl) | (dsimp only [ptc]; rw [← ho1, ← ho2]; rfl), rfl⟩
  · repeat' (first | (refine k_op1 ?_; (first | refine o_sv rfl (by decide) ?_ | (refine k_load ?_; (first | refine o_val (v_load rfl rfl rfl rfl) rfl rfl (by decide) ?_ | refine o_val (v_loadp rfl rfl rfl rfl) rfl rfl (by decide) ?_)) | (refine k_field ?_; (refine o_val (v_field rfl rfl) rfl rfl (by decide) ?_)) | (refine k_bin ?_; (refine o_val v_bor rfl rfl (by decide) ?_)) | (refine k_call ?_; (refine o_effz hl rfl hX hZ (by decide) ?_)) | (refine k_store ?_; (refine o_store0 rfl rfl rfl rfl rfl rfl ?_)) | (refine k_alloc ?_; (refine o_does (d_alloc rfl rfl (by decide)) ?_)) | (refine k_box ?_; (refine o_does (d_box_d rfl rfl (by decide)) ?_)) | (refine k_build ?_; (refine o_build rfl rfl rfl rfl rfl rfl rfl (by decide) ?_)))) | (refine k_ops ?_; (first | refine o_go (by first | exact .inl rfl | exact .inr ⟨_, _, _, rfl, rfl, rfl⟩) ?_ | refine o_nil ?_)) | (refine k_run ?_; (first | refine r_seq ?_ | refine r_region ?_ | refine r_true rfl ?_)))
    all_goals exact r_ret Tryd.func67 _ (res_cell rfl rfl rfl rfl rfl rfl) ⟨by first | rfl | (dsimp only [ptc]; rw [← ho2]; rfl) | (dsimp only [ptc]; rw [← ho1]; rfl) | (dsimp only [ptc]; rw [← ho1, ← ho2]; rfl), rfl⟩
end Go.Proofs.YtjmbjgecfpggdaaDoor
namespace Go.Proofs.YtjmbjgecfpggdaaDoor
open Go.Ab Go.Rx
set_option maxHeartbeats 20000000
set_option maxRecDepth 100000
set_option linter.unusedVariables false
set_option linter.unusedSimpArgs false
set_option linter.unusedSectionVars false
attribute [local irreducible] Run Ops Op1 Does Val Tr PureF Eff1 NF Rel EffV EffM EffN
abbrev lv1 (r : List Rg) : List D := [rgs r]
abbrev lvr (lv : List (List Rg)) : Blk := .row 22 1 (lv.map lv1)
abbrev fwr (fo : List Nat) : Blk := .row 77 1 (fo.map n64)
abbrev bks (t : Tb) : List (Nm × Blk) := [((0, 600), bbx 601 602), ((0, 601), lvr t.lv), ((0, 602), fwr t.fo)]
/-- behind the call the rows bear new names -/
abbrev hks (t : Tb) : List (Nm × Blk) := [((0, 600), .gone), ((0, 601), .gone), ((0, 602), .gone), ((0, 603), lvr t.lv), ((0, 604), fwr t.fo), ((0, 600), bbx 603 604)]
/-- a method of a table that is being built -/
abbrev FolW (g : FuncId) (args : List PV) (t : Tb) (r : Tb × Pt) : Prop := EffN Tryd.prog g (.ptr (0, 600) 0 :: args) (bks t) (hks r.1) (.d (.agg (ptc r.2))) 603 604
/-- a part's leaves are added by build -/
abbrev KB (e : Rx) : Prop := ∀ t : Tb, Sm t → (t.lv.length : Int) + pn e ≤ 64 → FolW 57 [.d (Drx e)] t (bd e t)
theorem Drx_mk (op mn mx : Int) (rs : List Rg) (ks : List Rx) : Drx (.mk op mn mx rs ks) = .agg (rx5 op mn mx rs ks) := congrArg D.agg (rxc_mk op mn mx rs ks)
theorem optional_s (e : Rx) (hv : vns e = true) (hk : KB e) : ∀ (n : Nat) (t : Tb), Sm t → n ≤ 16 → (t.lv.length : Int) + n * pn e ≤ 64 → FolW 79 [.d (Drx e), I .i64 (n : Nat)] t (opt (bd e) n t)
  | 0, t, hs, hn, hl => by
    obtain ⟨op, mn, mx, rs, ks⟩ := e
    rw [Drx_mk]
    refine effn_of fun H hH hG1 hG2 hQ1 hQ2 => ?_
    have hH0 := hH ((0, 600), bbx 601 602) (by simp)
    have hH1 := hH ((0, 601), lvr t.lv) (by simp)
    have hH2 := hH ((0, 602), fwr t.fo) (by simp)
    refine specV_of Tryd.func79 (by kernel_rfl) rfl (by simp) ?_
    dsimp only [Tryd.f79]
    refine r_take 600 0 600 hH0 rfl rfl ?_
    refine r_taker 601 0 601 (upd_ne hH1 (by simp)) rfl rfl ?_
    refine r_taker 602 0 602 (upd_ne (upd_ne hH2 (by simp)) (by simp)) rfl rfl ?_
    refine r_alias 100601 rfl ?_
    refine r_alias 100602 rfl ?_
    repeat' (first | (refine k_op1 ?_; (first | refine o_sv rfl (by decide) ?_ | (refine k_store ?_; (refine o_store0 rfl rfl rfl rfl rfl rfl ?_)) | (refine k_alloc ?_; (refine o_does (d_alloc rfl rfl (by decide)) ?_)) | (refine k_box ?_; (refine o_does (d_box_d rfl rfl (by decide)) ?_)) | (refine k_build ?_; (refine o_build rfl rfl rfl rfl rfl rfl rfl (by decide) ?_)))) | (refine k_ops ?_; (first | refine o_go (by first | exact .inl rfl | exact .inr ⟨_, _, _, rfl, rfl, rfl⟩) ?_ | refine o_nil ?_)) | (refine k_run ?_; (first | refine r_seq ?_ | refine r_region ?_ | refine r_true rfl ?_)))
    all_goals try (exfalso; omega)
    all_goals refine r_givev 601 603 rfl (upd_ne (upd_ne (upd_ne hG1 (by simp)) (by simp)) (by simp)) (Or.inl rfl) rfl (Quiet.upd (Quiet.upd (Quiet.upd hQ1 rfl) rfl) rfl) ?_
    all_goals refine r_givev 602 604 rfl (upd_ne (upd_ne (upd_ne (upd_ne hG2 (by simp)) (by simp)) (by simp)) (by simp)) (Or.inr rfl) rfl (Quiet.upd (Quiet.upd (Quiet.upd (Quiet.upd hQ2 rfl) rfl) rfl) rfl) ?_
    all_goals refine r_give 600 0 600 (raw := bbx 603 604) rfl rfl rfl rfl rfl ?_
    refine r_ret Tryd.func79 _ (res_cell rfl rfl rfl rfl rfl rfl) ⟨rfl, rfl⟩
  | n + 1, t, hs, hn, hl => by
    have hko := kidO hv
    have h0 := pn_nn.1 e hv
    have hnP : 0 ≤ (n : Int) * pn e := Int.mul_nonneg (by omega) h0
    have ee : ((n + 1 : Nat) : Int) * pn e = n * pn e + pn e := by rw [show ((n + 1 : Nat) : Int) = (n : Int) + 1 by omega, Int.add_mul, Int.one_mul]
    rw [ee] at hl
    have hbl := hko.bl t hs.len
    have hfw := hko.few t hs.len
    obtain ⟨s1, pf, pl⟩ := hbl.sm hs (by omega)
    have hos := opt_spec hko h0 n (bd e t).1 s1.len
    obtain ⟨s2, qf, ql⟩ := hos.1.sm s1 (by omega)
    have hk1 := hk t hs (by omega)
    have ho := optional_s e hv hk n (bd e t).1 s1 (by omega) (by omega)
    have hcc := ccat_s (X := 600) (Y := 603) (Z := 604) (by decide) (opt (bd e) n (bd e t).1).1.fo (bd e t).2 (opt (bd e) n (bd e t).1).2 pf pl qf ql (by rw [s2.len]; omega) s2.sm (opt (bd e) n (bd e t).1).1.lv 0
    have hn1 : ((n + 1 : Nat) : Int) - 1 = (n : Nat) := by omega
    have hnu := opt_nu (b := bd e) n (bd e t).1
    rw [opt]
    generalize hE : opt (bd e) n (bd e t).1 = r2 at *
    generalize hB : bd e t = r1 at *
    obtain ⟨t2, p2⟩ := r2
    obtain ⟨t1, p1⟩ := r1
    obtain ⟨op, mn, mx, rs, ks⟩ := e
    rw [Drx_mk] at hk1 ho ⊢
    dsimp only [FolW, hks] at hk1 ho
    rw [← hn1] at ho
    have e1 : (t.lv.map lv1).length = t.lv.length := List.length_map _
    have e2 : (t1.lv.map lv1).length = t1.lv.length := List.length_map _
    refine effn_of fun H hH hG1 hG2 hQ1 hQ2 => ?_
    have hH0 := hH ((0, 600), bbx 601 602) (by simp)
    have hH1 := hH ((0, 601), lvr t.lv) (by simp)
    have hH2 := hH ((0, 602), fwr t.fo) (by simp)
    refine specV_of Tryd.func79 (by kernel_rfl) rfl (by simp) ?_
    dsimp only [Tryd.f79]
    refine r_take 600 0 600 hH0 rfl rfl ?_
    refine r_taker 601 0 601 (upd_ne hH1 (by simp)) rfl rfl ?_
    refine r_taker 602 0 602 (upd_ne (upd_ne hH2 (by simp)) (by simp)) rfl rfl ?_
    refine r_alias 100601 rfl ?_
    refine r_alias 100602 rfl ?_
    simp only [same, decide_eq_true_eq] at *
    by_cases hsm : t1.lv.length = t.lv.length
    · rw [if_pos hsm]
      repeat' (first | (refine k_op1 ?_; (first | refine o_folr hk1 rfl rfl rfl (by decide) rfl rfl rfl (by decide) rfl rfl rfl rfl ?_ | refine o_sv rfl (by decide) ?_ | (refine k_load ?_; (first | refine o_val (v_loada rfl rfl rfl) rfl rfl (by decide) ?_ | refine o_val (v_load rfl rfl rfl rfl) rfl rfl (by decide) ?_)) | (refine k_field ?_; (refine o_val (v_field rfl rfl) rfl rfl (by decide) ?_)) | (refine k_blt ?_; (refine o_val (v_lenr rfl) rfl rfl (by decide) ?_)) | (refine k_store ?_; (refine o_store0 rfl rfl rfl rfl rfl rfl ?_)) | (refine k_alloc ?_; (refine o_does (d_alloc rfl rfl (by decide)) ?_)) | (refine k_box ?_; (refine o_does (d_box_d rfl rfl (by decide)) ?_)) | (refine k_build ?_; (refine o_build rfl rfl rfl rfl rfl rfl rfl (by decide) ?_)))) | (refine k_ops ?_; (first | refine o_go (by first | exact .inl rfl | exact .inr ⟨_, _, _, rfl, rfl, rfl⟩) ?_ | refine o_nil ?_)) | (refine k_run ?_; (first | refine r_seq ?_ | refine r_region ?_ | refine r_false rfl ?_ | refine r_skip ?_ | refine r_tr ?_ | refine r_if rfl (fun _ => ?_) (fun _ => ?_))) | (refine k_tr ?_; (first | refine t_sv rfl (by first | exact rfl | exact ⟨_, rfl, rfl, rfl⟩) (by decide) ?_ | (refine kt_load ?_; (refine t_val (v_loadp rfl rfl rfl rfl) (by first | exact rfl | exact ⟨_, rfl, rfl, rfl⟩) rfl rfl (by decide) ?_)) | (refine kt_bin ?_; (refine t_val (v_sub (wi64 (by omega) (by omega))) (by first | exact rfl | exact ⟨_, rfl, rfl, rfl⟩) rfl rfl (by decide) ?_)))))
      all_goals try (exfalso; omega)
      all_goals refine r_givev 601 603 rfl (upd_ne (upd_ne (upd_ne hG1 (by simp)) (by simp)) (by simp)) (Or.inl rfl) rfl (Quiet.upd (Quiet.upd (Quiet.upd hQ1 rfl) rfl) rfl) ?_
      all_goals refine r_givev 602 604 rfl (upd_ne (upd_ne (upd_ne (upd_ne hG2 (by simp)) (by simp)) (by simp)) (by simp)) (Or.inr rfl) rfl (Quiet.upd (Quiet.upd (Quiet.upd (Quiet.upd hQ2 rfl) rfl) rfl) rfl) ?_
      all_goals refine r_give 600 0 600 (raw := bbx 603 604) rfl rfl rfl rfl rfl ?_
      all_goals refine r_ret Tryd.func79 _ (res_cell rfl rfl rfl rfl rfl rfl) ⟨rfl, rfl⟩
    · rw [if_neg hsm]
      repeat' (first | (refine k_op1 ?_; (first | refine o_folr hk1 rfl rfl rfl (by decide) rfl rfl rfl (by decide) rfl rfl rfl rfl ?_ | refine o_sv rfl (by decide) ?_ | (refine k_load ?_; (first | refine o_val (v_loada rfl rfl rfl) rfl rfl (by decide) ?_ | refine o_val (v_load rfl rfl rfl rfl) rfl rfl (by decide) ?_ | refine o_val (v_loadp rfl rfl rfl rfl) rfl rfl (by decide) ?_)) | (refine k_field ?_; (refine o_val (v_field rfl rfl) rfl rfl (by decide) ?_)) | (refine k_blt ?_; (refine o_val (v_lenr rfl) rfl rfl (by decide) ?_)) | (refine k_store ?_; (refine o_store0 rfl rfl rfl rfl rfl rfl ?_)) | (refine k_alloc ?_; (refine o_does (d_alloc rfl rfl (by decide)) ?_)) | (refine k_box ?_; (refine o_does (d_box_d rfl rfl (by decide)) ?_)) | (refine k_build ?_; (refine o_build rfl rfl rfl rfl rfl rfl rfl (by decide) ?_)))) | (refine k_ops ?_; (first | refine o_go (by first | exact .inl rfl | exact .inr ⟨_, _, _, rfl, rfl, rfl⟩) ?_ | refine o_nil ?_)) | (refine k_run ?_; (first | refine r_seq ?_ | refine r_region ?_ | refine r_false rfl ?_ | refine r_skip ?_ | refine r_tr ?_ | refine r_if rfl (fun _ => ?_) (fun _ => ?_))) | (refine k_tr ?_; (first | (refine kt_end ?_; refine t_end mix (by kernel_rfl) ?_) | refine t_fol ho (by first | exact rfl | exact ⟨_, rfl, rfl, rfl⟩) rfl rfl rfl (by decide) rfl rfl rfl (by decide) ?_ | refine t_sv rfl (by first | exact rfl | exact ⟨_, rfl, rfl, rfl⟩) (by decide) ?_ | (refine kt_load ?_; (refine t_val (v_loadp rfl rfl rfl rfl) (by first | exact rfl | exact ⟨_, rfl, rfl, rfl⟩) rfl rfl (by decide) ?_)) | (refine kt_bin ?_; (refine t_val (v_sub (wi64 (by omega) (by omega))) (by first | exact rfl | exact ⟨_, rfl, rfl, rfl⟩) rfl rfl (by decide) ?_)) | (refine kt_call ?_; (refine t_eff2o hcc (by first | exact rfl | exact ⟨_, rfl, rfl, rfl⟩) rfl rfl rfl (by decide) ?_)) | (refine kt_store ?_; (refine t_store0 (by first | exact rfl | exact ⟨_, rfl, rfl, rfl⟩) rfl rfl rfl rfl rfl rfl ?_)) | (refine kt_alloc ?_; (refine t_alloc (by first | exact rfl | exact ⟨_, rfl, rfl, rfl⟩) rfl rfl (by decide) ?_)))))
      all_goals try (exfalso; omega)
      all_goals refine r_givev 603 603 rfl (upd_ne (upd_ne (upd_ne hG1 (by simp)) (by simp)) (by simp)) (Or.inl rfl) rfl (Quiet.upd (Quiet.upd (Quiet.upd hQ1 rfl) rfl) rfl) ?_
      all_goals refine r_givev 604 604 rfl (upd_ne (upd_ne (upd_ne (upd_ne hG2 (by simp)) (by simp)) (by simp)) (by simp)) (Or.inr rfl) rfl (Quiet.upd (Quiet.upd (Quiet.upd (Quiet.upd hQ2 rfl) rfl) rfl) rfl) ?_
      all_goals refine r_give 600 0 600 (raw := bbx 603 604) rfl rfl rfl rfl rfl ?_
      refine r_ret Tryd.func79 _ (res_cell rfl rfl rfl rfl rfl rfl) ⟨rfl, rfl⟩
end Go.Proofs.YtjmbjgecfpggdaaDoor
namespace Go.Proofs.YtjmbjgecfpggdaaDoor
open Go.Ab Go.Rx
set_option maxHeartbeats 20000000
set_option maxRecDepth 100000
set_option linter.unusedVariables false
set_option linter.unusedSimpArgs false
set_option linter.unusedSectionVars false
attribute [local irreducible] Run Ops Op1 Does Val Tr PureF Eff1 NF Rel EffV EffM EffN
abbrev U3 (H : Hf) : Hf := upd (upd (upd H (0, 600) .gone) (0, 601) .gone) (0, 602) .gone
abbrev ptb (p : Pt) : Blk := .box [.d (Du64 (p.f : Nat)), .d (Du64 (p.l : Nat)), .d (Dbool p.nu)]
abbrev rx51 (op mn mx : Int) (rs : List Rg) (c : List D) : List D := [Dint op, Dint mn, Dint mx, rgs rs, .slice [c]]
theorem rx5_one (op mn mx : Int) (rs : List Rg) (ok mk xk : Int) (rk : List Rg) (kk : List Rx) : rx5 op mn mx rs [.mk ok mk xk rk kk] = rx51 op mn mx rs (rx5 ok mk xk rk kk) := by
  show [Dint op, Dint mn, Dint mx, rgs rs, .slice [rxc (.mk ok mk xk rk kk)]] = _
  rw [rxc_mk]
theorem frep_s (op mn mx : Int) (rs : List Rg) (k : Rx) (hvk : vns k = true) (hk : KB k) (h0 : 0 ≤ mn) (h16 : mn ≤ 16) (hm : mx = -1 ∨ (mn ≤ mx ∧ mx ≤ 16)) (t : Tb) (hs : Sm t) (hl : (t.lv.length : Int) + rep mn mx (pn k) ≤ 64) :
    FolW 68 [.d (Drx (.mk op mn mx rs [k]))] t (rp (bd k) mn mx t) := by
  have hko := kidO hvk
  have hP := pn_nn.1 k hvk
  have hrep : mn * pn k ≤ rep mn mx (pn k) := by
    rw [rep]
    split
    · rw [Int.mul_comm]; exact Int.mul_le_mul_of_nonneg_left (by omega) hP
    · rw [Int.mul_comm]; exact Int.mul_le_mul_of_nonneg_left (by omega) hP
  obtain ⟨r, hr⟩ : ∃ r, rpl (bd k) (decide (mx < 0)) mn.toNat t ptE = r := ⟨_, rfl⟩
  obtain ⟨F, hF⟩ : ∃ F, rp (bd k) mn mx t = F := ⟨_, rfl⟩
  have hF' := hF
  rw [rp] at hF'
  simp only [hr] at hF'
  rw [hF]
  obtain ⟨ok, mk, xk, rk, kk⟩ := k
  rw [Drx_mk, rx5_one]
  refine effn_of fun H hH hG1 hG2 hQ1 hQ2 => ?_
  have hH0 := hH ((0, 600), bbx 601 602) (by simp)
  have hH1 := hH ((0, 601), lvr t.lv) (by simp)
  have hH2 := hH ((0, 602), fwr t.fo) (by simp)
  refine specV_of Tryd.func68 (by kernel_rfl) rfl (by simp) ?_
  dsimp only [Tryd.f68]
  refine r_take 600 0 600 hH0 rfl rfl ?_
  refine r_taker 601 0 601 (upd_ne hH1 (by simp)) rfl rfl ?_
  refine r_taker 602 0 602 (upd_ne (upd_ne hH2 (by simp)) (by simp)) rfl rfl ?_
  refine r_alias 100601 rfl ?_
  refine r_alias 100602 rfl ?_
  repeat' (first | (refine k_op1 ?_; (first | refine o_sv rfl (by decide) ?_ | (refine k_load ?_; (refine o_val (v_load rfl rfl rfl rfl) rfl rfl (by decide) ?_)) | (refine k_field ?_; (refine o_val (v_field rfl rfl) rfl rfl (by decide) ?_)) | (refine k_store ?_; (refine o_store0 rfl rfl rfl rfl rfl rfl ?_)) | (refine k_alloc ?_; (refine o_does (d_alloc rfl rfl (by decide)) ?_)) | (refine k_box ?_; (refine o_does (d_box_d rfl rfl (by decide)) ?_)) | (refine k_build ?_; (refine o_build rfl rfl rfl rfl rfl rfl rfl (by decide) ?_)))) | (refine k_ops ?_; (first | refine o_go (by first | exact .inl rfl | exact .inr ⟨_, _, _, rfl, rfl, rfl⟩) ?_ | refine o_nil ?_)) | (refine k_run ?_; (first | refine r_seq ?_ | refine r_region ?_ | refine r_block ?_)))
  refine r_loop ?_
  refine r_less (r_inv (fun q : Nat × Tb × Pt => ⟨98, [(0, .ptr (0, 600) 0), (3, .ptr (0, 3) 0), (4, .ptr (0, 4) 0), (5, .ptr (0, 5) 0), (11, I .i64 mn), (12, I .i64 (q.1 : Nat)), (100600, .al (0, 600) (1, 600))], [(3, .box ((rx51 op mn mx rs (rx5 ok mk xk rk kk)).map .d)), (4, ptb ptN), (5, ptb q.2.2), (600, bbx 601 602), (601, lvr q.2.1.lv), (602, fwr q.2.1.fo)], U3 H⟩)
    (fun q => q.1 ≤ mn.toNat ∧ rpl (bd (.mk ok mk xk rk kk)) (decide (mx < 0)) (mn.toNat - q.1) q.2.1 q.2.2 = r ∧ (∃ Z, Bl O1 Z t q.2.1 q.2.2) ∧ (q.2.1.lv.length : Int) + ((mn.toNat - q.1 : Nat) : Int) * pn (.mk ok mk xk rk kk) ≤ t.lv.length + mn * pn (.mk ok mk xk rk kk)) (fun q => mn.toNat - q.1) ?_ (0, t, ptE) ⟨Nat.zero_le _, hr, ⟨_, Bl.eps (Ex.refl hs.len)⟩, by simp only [Nat.sub_zero]; rw [show ((mn.toNat : Nat) : Int) = mn by omega]; exact Int.le_refl _⟩) rfl rfl
  rintro ⟨i, t', p⟩ ⟨i1, i2, ⟨Z, i3⟩, i4⟩ ih
  simp only at i1 i2 i3 i4 ih ⊢
  have hnn : 0 ≤ ((mn.toNat - i : Nat) : Int) * pn (.mk ok mk xk rk kk) := Int.mul_nonneg (by omega) hP
  obtain ⟨s1, pf, pl⟩ := i3.sm hs (by omega)
  by_cases hlt : i < mn.toNat
  · obtain ⟨n', hn⟩ : ∃ n', mn.toNat - i = n' + 1 := ⟨mn.toNat - i - 1, by omega⟩
    have hn2 : mn.toNat - (i + 1) = n' := by omega
    have hbl := hko.bl t' s1.len
    have hfw := hko.few t' s1.len
    have hnn2 : 0 ≤ (n' : Int) * pn (.mk ok mk xk rk kk) := Int.mul_nonneg (by omega) hP
    rw [hn, show ((n' + 1 : Nat) : Int) = (n' : Int) + 1 by omega, Int.add_mul, Int.one_mul] at i4
    obtain ⟨s2, qf, ql⟩ := hbl.sm s1 (by omega)
    have hk1 := hk t' s1 (by omega)
    rw [hn, rpl] at i2
    generalize hB : bd (.mk ok mk xk rk kk) t' = r1 at *
    obtain ⟨t1, q⟩ := r1
    have hfw2 : (t1.lv.length : Int) ≤ t'.lv.length + pn (.mk ok mk xk rk kk) := hfw
    rw [Drx_mk] at hk1
    dsimp only [FolW, hks] at hk1
    simp only [same, decide_eq_true_eq] at i2
    have e1 : (t'.lv.map lv1).length = t'.lv.length := List.length_map _
    have e2 : (t1.lv.map lv1).length = t1.lv.length := List.length_map _
    by_cases hsm : t1.lv.length = t'.lv.length
    · rw [if_pos hsm] at i2
      have hFF : F = (t1, ptE) := by
        rw [← hF', ← i2]; rfl
      rw [hFF]
      repeat' (first | (refine k_op1 ?_; (first | refine o_folr hk1 rfl rfl rfl (by decide) rfl rfl rfl (by decide) rfl rfl rfl rfl ?_ | refine o_sv rfl (by decide) ?_ | (refine k_load ?_; (first | refine o_val (v_load rfl rfl rfl rfl) rfl rfl (by decide) ?_ | refine o_val (v_loadea rfl rfl) rfl rfl (by decide) ?_ | refine o_val (v_loadp rfl rfl rfl rfl) rfl rfl (by decide) ?_)) | (refine k_field ?_; (refine o_val (v_field rfl rfl) rfl rfl (by decide) ?_)) | (refine k_index ?_; (refine o_val (v_index (ys := [rx5 ok mk xk rk kk]) rfl (by omega) rfl rfl) rfl rfl (by decide) ?_)) | (refine k_bin ?_; (refine o_val (v_sub (wi64 (by omega) (by omega))) rfl rfl (by decide) ?_)) | (refine k_blt ?_; (refine o_val (v_lenr rfl) rfl rfl (by decide) ?_)) | (refine k_store ?_; (refine o_store0 rfl rfl rfl rfl rfl rfl ?_)) | (refine k_alloc ?_; (refine o_does (d_alloc rfl rfl (by decide)) ?_)) | (refine k_build ?_; (refine o_build rfl rfl rfl rfl rfl rfl rfl (by decide) ?_)))) | (refine k_ops ?_; (first | refine o_go (by first | exact .inl rfl | exact .inr ⟨_, _, _, rfl, rfl, rfl⟩) ?_ | refine o_nil ?_ | refine o_no rfl rfl (by decide) ?_ | refine o_casep rfl rfl (fun _ => ?_) (fun _ => ?_))) | (refine k_run ?_; (first | refine r_seq ?_ | refine r_region ?_ | refine r_false rfl ?_ | refine r_skip ?_ | refine r_block ?_ | refine r_tr ?_ | refine r_inBlock ?_ | refine r_if rfl (fun _ => ?_) (fun _ => ?_) | refine r_exit rfl ?_)) | (refine k_tr ?_; (first | refine t_sv rfl (by first | exact rfl | exact ⟨_, rfl, rfl, rfl⟩) (by decide) ?_ | (refine kt_load ?_; (first | refine t_val (v_load rfl rfl rfl rfl) (by first | exact rfl | exact ⟨_, rfl, rfl, rfl⟩) rfl rfl (by decide) ?_ | refine t_val (v_loadea rfl rfl) (by first | exact rfl | exact ⟨_, rfl, rfl, rfl⟩) rfl rfl (by decide) ?_ | refine t_val (v_loadp rfl rfl rfl rfl) (by first | exact rfl | exact ⟨_, rfl, rfl, rfl⟩) rfl rfl (by decide) ?_)) | (refine kt_field ?_; (refine t_val (v_field rfl rfl) (by first | exact rfl | exact ⟨_, rfl, rfl, rfl⟩) rfl rfl (by decide) ?_)) | (refine kt_index ?_; (refine t_val (v_index (ys := [rx5 ok mk xk rk kk]) rfl (by omega) rfl rfl) (by first | exact rfl | exact ⟨_, rfl, rfl, rfl⟩) rfl rfl (by decide) ?_)) | (refine kt_bin ?_; (refine t_val (v_sub (wi64 (by omega) (by omega))) (by first | exact rfl | exact ⟨_, rfl, rfl, rfl⟩) rfl rfl (by decide) ?_)))))
      all_goals try (exfalso; omega)
      all_goals refine r_givev 601 603 rfl (upd_ne (upd_ne (upd_ne hG1 (by simp)) (by simp)) (by simp)) (Or.inl rfl) rfl (Quiet.upd (Quiet.upd (Quiet.upd hQ1 rfl) rfl) rfl) ?_
      all_goals refine r_givev 602 604 rfl (upd_ne (upd_ne (upd_ne (upd_ne hG2 (by simp)) (by simp)) (by simp)) (by simp)) (Or.inr rfl) rfl (Quiet.upd (Quiet.upd (Quiet.upd (Quiet.upd hQ2 rfl) rfl) rfl) rfl) ?_
      all_goals refine r_give 600 0 600 (raw := bbx 603 604) rfl rfl rfl rfl rfl ?_
      all_goals refine r_ret Tryd.func68 _ (res_cell rfl rfl rfl rfl rfl rfl) ⟨rfl, rfl⟩
    · rw [if_neg hsm] at i2
      by_cases hpl : mx < 0 ∧ n' = 0
      · rw [if_pos (by simp [hpl.1, hpl.2])] at i2
        have hbp := hbl.plus
        obtain ⟨s3, _, _⟩ := hbp.sm s1 (by show t1.lv.length ≤ 64; omega)
        have hlk := link_s (X := 600) (Y := 601) (Z := 602) (by decide) t1.fo q.l q.f ql qf (by rw [s2.len]; omega) s2.sm 0
        have hcc := ccat_s (X := 600) (Y := 601) (Z := 602) (by decide) (lnk q.l q.f 0 t1.fo) p q pf pl qf ql (by have := s3.len; show (link t1 q.l q.f).fo.length ≤ 64; rw [this]; show t1.lv.length ≤ 64; omega) s3.sm t1.lv 0
        have ih' := ih (i + 1, (ccat p q (link t1 q.l q.f)).1, (ccat p q (link t1 q.l q.f)).2) ⟨by simp only; omega, by simp only; rw [hn2]; exact i2, ⟨_, i3.cat hbp⟩, by simp only; rw [hn2]; show (t1.lv.length : Int) + _ ≤ _; omega⟩ (by simp only; omega)
        repeat' (first | (refine k_op1 ?_; (first | refine o_folr hk1 rfl rfl rfl (by decide) rfl rfl rfl (by decide) rfl rfl rfl rfl ?_ | refine o_sv rfl (by decide) ?_ | (refine k_load ?_; (first | refine o_val (v_load rfl rfl rfl rfl) rfl rfl (by decide) ?_ | refine o_val (v_loadea rfl rfl) rfl rfl (by decide) ?_ | refine o_val (v_loadp rfl rfl rfl rfl) rfl rfl (by decide) ?_)) | (refine k_field ?_; (refine o_val (v_field rfl rfl) rfl rfl (by decide) ?_)) | (refine k_index ?_; (refine o_val (v_index (ys := [rx5 ok mk xk rk kk]) rfl (by omega) rfl rfl) rfl rfl (by decide) ?_)) | (refine k_bin ?_; (first | refine o_val (v_add (wi64 (by omega) (by omega))) rfl rfl (by decide) ?_ | refine o_val (v_sub (wi64 (by omega) (by omega))) rfl rfl (by decide) ?_)) | (refine k_blt ?_; (refine o_val (v_lenr rfl) rfl rfl (by decide) ?_)) | (refine k_call ?_; (first | refine o_eff2o hlk rfl rfl rfl (by decide) ?_ | refine o_eff2o hcc rfl rfl rfl (by decide) ?_)) | (refine k_store ?_; (refine o_store0 rfl rfl rfl rfl rfl rfl ?_)) | (refine k_alloc ?_; (refine o_does (d_alloc rfl rfl (by decide)) ?_)) | (refine k_build ?_; (refine o_build rfl rfl rfl rfl rfl rfl rfl (by decide) ?_)))) | (refine k_ops ?_; (first | refine o_go (by first | exact .inl rfl | exact .inr ⟨_, _, _, rfl, rfl, rfl⟩) ?_ | refine o_nil ?_ | refine o_no rfl rfl (by decide) ?_ | refine o_casep rfl rfl (fun _ => ?_) (fun _ => ?_))) | (refine k_run ?_; (first | refine r_seq ?_ | refine r_region ?_ | refine r_false rfl ?_ | refine r_skip ?_ | refine r_block ?_ | refine r_tr ?_ | refine r_inBlock ?_ | refine r_if rfl (fun _ => ?_) (fun _ => ?_) | refine r_exit rfl ?_)) | (refine k_tr ?_; (first | refine t_sv rfl (by first | exact rfl | exact ⟨_, rfl, rfl, rfl⟩) (by decide) ?_ | (refine kt_load ?_; (first | refine t_val (v_load rfl rfl rfl rfl) (by first | exact rfl | exact ⟨_, rfl, rfl, rfl⟩) rfl rfl (by decide) ?_ | refine t_val (v_loadea rfl rfl) (by first | exact rfl | exact ⟨_, rfl, rfl, rfl⟩) rfl rfl (by decide) ?_ | refine t_val (v_loadp rfl rfl rfl rfl) (by first | exact rfl | exact ⟨_, rfl, rfl, rfl⟩) rfl rfl (by decide) ?_)) | (refine kt_field ?_; (refine t_val (v_field rfl rfl) (by first | exact rfl | exact ⟨_, rfl, rfl, rfl⟩) rfl rfl (by decide) ?_)) | (refine kt_index ?_; (refine t_val (v_index (ys := [rx5 ok mk xk rk kk]) rfl (by omega) rfl rfl) (by first | exact rfl | exact ⟨_, rfl, rfl, rfl⟩) rfl rfl (by decide) ?_)) | (refine kt_bin ?_; (refine t_val (v_sub (wi64 (by omega) (by omega))) (by first | exact rfl | exact ⟨_, rfl, rfl, rfl⟩) rfl rfl (by decide) ?_)))))
        all_goals try (exfalso; omega)
        all_goals exact r_less ih' rfl rfl
      · rw [if_neg (by simpa using hpl)] at i2
        have hcc := ccat_s (X := 600) (Y := 601) (Z := 602) (by decide) t1.fo p q pf pl qf ql (by rw [s2.len]; omega) s2.sm t1.lv 0
        have ih' := ih (i + 1, (ccat p q t1).1, (ccat p q t1).2) ⟨by simp only; omega, by simp only; rw [hn2]; exact i2, ⟨_, i3.cat hbl⟩, by simp only; rw [hn2]; show (t1.lv.length : Int) + _ ≤ _; omega⟩ (by simp only; omega)
        repeat' (first | (refine k_op1 ?_; (first | refine o_folr hk1 rfl rfl rfl (by decide) rfl rfl rfl (by decide) rfl rfl rfl rfl ?_ | refine o_sv rfl (by decide) ?_ | (refine k_load ?_; (first | refine o_val (v_load rfl rfl rfl rfl) rfl rfl (by decide) ?_ | refine o_val (v_loadea rfl rfl) rfl rfl (by decide) ?_ | refine o_val (v_loadp rfl rfl rfl rfl) rfl rfl (by decide) ?_)) | (refine k_field ?_; (refine o_val (v_field rfl rfl) rfl rfl (by decide) ?_)) | (refine k_index ?_; (refine o_val (v_index (ys := [rx5 ok mk xk rk kk]) rfl (by omega) rfl rfl) rfl rfl (by decide) ?_)) | (refine k_bin ?_; (first | refine o_val (v_add (wi64 (by omega) (by omega))) rfl rfl (by decide) ?_ | refine o_val (v_sub (wi64 (by omega) (by omega))) rfl rfl (by decide) ?_)) | (refine k_blt ?_; (refine o_val (v_lenr rfl) rfl rfl (by decide) ?_)) | (refine k_call ?_; (refine o_eff2o hcc rfl rfl rfl (by decide) ?_)) | (refine k_store ?_; (refine o_store0 rfl rfl rfl rfl rfl rfl ?_)) | (refine k_alloc ?_; (refine o_does (d_alloc rfl rfl (by decide)) ?_)) | (refine k_build ?_; (refine o_build rfl rfl rfl rfl rfl rfl rfl (by decide) ?_)))) | (refine k_ops ?_; (first | refine o_go (by first | exact .inl rfl | exact .inr ⟨_, _, _, rfl, rfl, rfl⟩) ?_ | refine o_nil ?_ | refine o_no rfl rfl (by decide) ?_ | refine o_casep rfl rfl (fun _ => ?_) (fun _ => ?_))) | (refine k_run ?_; (first | refine r_seq ?_ | refine r_region ?_ | refine r_false rfl ?_ | refine r_skip ?_ | refine r_block ?_ | refine r_tr ?_ | refine r_inBlock ?_ | refine r_if rfl (fun _ => ?_) (fun _ => ?_) | refine r_exit rfl ?_)) | (refine k_tr ?_; (first | refine t_sv rfl (by first | exact rfl | exact ⟨_, rfl, rfl, rfl⟩) (by decide) ?_ | (refine kt_load ?_; (first | refine t_val (v_load rfl rfl rfl rfl) (by first | exact rfl | exact ⟨_, rfl, rfl, rfl⟩) rfl rfl (by decide) ?_ | refine t_val (v_loadea rfl rfl) (by first | exact rfl | exact ⟨_, rfl, rfl, rfl⟩) rfl rfl (by decide) ?_ | refine t_val (v_loadp rfl rfl rfl rfl) (by first | exact rfl | exact ⟨_, rfl, rfl, rfl⟩) rfl rfl (by decide) ?_)) | (refine kt_field ?_; (refine t_val (v_field rfl rfl) (by first | exact rfl | exact ⟨_, rfl, rfl, rfl⟩) rfl rfl (by decide) ?_)) | (refine kt_index ?_; (refine t_val (v_index (ys := [rx5 ok mk xk rk kk]) rfl (by omega) rfl rfl) (by first | exact rfl | exact ⟨_, rfl, rfl, rfl⟩) rfl rfl (by decide) ?_)) | (refine kt_bin ?_; (refine t_val (v_sub (wi64 (by omega) (by omega))) (by first | exact rfl | exact ⟨_, rfl, rfl, rfl⟩) rfl rfl (by decide) ?_)))))
        all_goals try (exfalso; omega)
        all_goals exact r_less ih' rfl rfl
  · obtain rfl : i = mn.toNat := by omega
    rw [Nat.sub_self, rpl] at i2
    rw [← i2] at hF'
    simp only [Bool.false_eq_true, if_false] at hF'
    rw [Nat.sub_self] at i4
    have i4' : (t'.lv.length : Int) ≤ t.lv.length + mn * pn (.mk ok mk xk rk kk) := by simpa using i4
    by_cases hA : mx < 0 ∧ mn = 0
    · rw [if_pos hA] at hF'
      have hre : rep mn mx (pn (.mk ok mk xk rk kk)) = pn (.mk ok mk xk rk kk) := by
        rw [rep, if_pos (by omega), hA.2, show max (0 : Int) 1 = 1 by decide, Int.mul_one]
      rw [hre] at hl
      rw [hA.2, Int.zero_mul] at i4'
      have hbl := hko.bl t' s1.len
      have hfw := hko.few t' s1.len
      obtain ⟨s2, qf, ql⟩ := hbl.sm s1 (by omega)
      have hk1 := hk t' s1 (by omega)
      generalize hB : bd (.mk ok mk xk rk kk) t' = r1 at *
      obtain ⟨t1, q⟩ := r1
      have hfw2 : (t1.lv.length : Int) ≤ t'.lv.length + pn (.mk ok mk xk rk kk) := hfw
      rw [Drx_mk] at hk1
      dsimp only [FolW, hks] at hk1
      have hlk := link_s (X := 600) (Y := 601) (Z := 602) (by decide) t1.fo q.l q.f ql qf (by rw [s2.len]; omega) s2.sm 0
      rw [← hF']
      repeat' (first | (refine k_op1 ?_; (first | refine o_folr hk1 rfl rfl rfl (by decide) rfl rfl rfl (by decide) rfl rfl rfl rfl ?_ | refine o_sv rfl (by decide) ?_ | (refine k_load ?_; (first | refine o_val (v_load rfl rfl rfl rfl) rfl rfl (by decide) ?_ | refine o_val (v_loadea rfl rfl) rfl rfl (by decide) ?_ | refine o_val (v_loadp rfl rfl rfl rfl) rfl rfl (by decide) ?_)) | (refine k_field ?_; (refine o_val (v_field rfl rfl) rfl rfl (by decide) ?_)) | (refine k_index ?_; (refine o_val (v_index (ys := [rx5 ok mk xk rk kk]) rfl (by omega) rfl rfl) rfl rfl (by decide) ?_)) | (refine k_bin ?_; (refine o_val (v_sub (wi64 (by omega) (by omega))) rfl rfl (by decide) ?_)) | (refine k_blt ?_; (refine o_val (v_lenrm rfl) rfl rfl (by decide) ?_)) | (refine k_call ?_; (refine o_eff2o hlk rfl rfl rfl (by decide) ?_)) | (refine k_store ?_; (refine o_store0 rfl rfl rfl rfl rfl rfl ?_)) | (refine k_alloc ?_; (refine o_does (d_alloc rfl rfl (by decide)) ?_)) | (refine k_build ?_; (refine o_build rfl rfl rfl rfl rfl rfl rfl (by decide) ?_)))) | (refine k_ops ?_; (first | refine o_go (by first | exact .inl rfl | exact .inr ⟨_, _, _, rfl, rfl, rfl⟩) ?_ | refine o_nil ?_ | refine o_no rfl rfl (by decide) ?_ | refine o_casep rfl rfl (fun _ => ?_) (fun _ => ?_))) | (refine k_run ?_; (first | refine r_seq ?_ | refine r_region ?_ | refine r_false rfl ?_ | refine r_skip ?_ | refine r_block ?_ | refine r_tr ?_ | refine r_inBlock ?_ | refine r_if rfl (fun _ => ?_) (fun _ => ?_) | refine r_exit rfl ?_)) | (refine k_tr ?_; (first | refine t_sv rfl (by first | exact rfl | exact ⟨_, rfl, rfl, rfl⟩) (by decide) ?_ | (refine kt_load ?_; (first | refine t_val (v_load rfl rfl rfl rfl) (by first | exact rfl | exact ⟨_, rfl, rfl, rfl⟩) rfl rfl (by decide) ?_ | refine t_val (v_loadea rfl rfl) (by first | exact rfl | exact ⟨_, rfl, rfl, rfl⟩) rfl rfl (by decide) ?_ | refine t_val (v_loadp rfl rfl rfl rfl) (by first | exact rfl | exact ⟨_, rfl, rfl, rfl⟩) rfl rfl (by decide) ?_)) | (refine kt_field ?_; (refine t_val (v_field rfl rfl) (by first | exact rfl | exact ⟨_, rfl, rfl, rfl⟩) rfl rfl (by decide) ?_)) | (refine kt_index ?_; (refine t_val (v_index (ys := [rx5 ok mk xk rk kk]) rfl (by omega) rfl rfl) (by first | exact rfl | exact ⟨_, rfl, rfl, rfl⟩) rfl rfl (by decide) ?_)) | (refine kt_bin ?_; (refine t_val (v_sub (wi64 (by omega) (by omega))) (by first | exact rfl | exact ⟨_, rfl, rfl, rfl⟩) rfl rfl (by decide) ?_)))))
      all_goals try (exfalso; omega)
      all_goals refine r_givev 601 603 rfl (upd_ne (upd_ne (upd_ne hG1 (by simp)) (by simp)) (by simp)) (Or.inl rfl) rfl (Quiet.upd (Quiet.upd (Quiet.upd hQ1 rfl) rfl) rfl) ?_
      all_goals refine r_givev 602 604 rfl (upd_ne (upd_ne (upd_ne (upd_ne hG2 (by simp)) (by simp)) (by simp)) (by simp)) (Or.inr rfl) rfl (Quiet.upd (Quiet.upd (Quiet.upd (Quiet.upd hQ2 rfl) rfl) rfl) rfl) ?_
      all_goals refine r_give 600 0 600 (raw := bbx 603 604) rfl rfl rfl rfl rfl ?_
      all_goals refine r_ret Tryd.func68 _ (res_cell rfl rfl rfl rfl rfl rfl) ⟨rfl, rfl⟩
    · rw [if_neg hA] at hF'
      by_cases hC : mn < mx
      · rw [if_pos hC] at hF'
        have hre : rep mn mx (pn (.mk ok mk xk rk kk)) = mn * pn (.mk ok mk xk rk kk) + ((mx - mn).toNat : Int) * pn (.mk ok mk xk rk kk) := by
          rw [rep, if_neg (by omega), ← Int.add_mul, Int.mul_comm]; congr 1; omega
        have ho := optional_s (.mk ok mk xk rk kk) hvk hk (mx - mn).toNat t' s1 (by omega) (by omega)
        have hos := opt_spec hko hP (mx - mn).toNat t' s1.len
        obtain ⟨s2, qf, ql⟩ := hos.1.sm s1 (by omega)
        generalize hB : opt (bd (.mk ok mk xk rk kk)) (mx - mn).toNat t' = r1 at *
        obtain ⟨t1, q⟩ := r1
        have hfw2 : (t1.lv.length : Int) ≤ t'.lv.length + ((mx - mn).toNat : Int) * pn (.mk ok mk xk rk kk) := hos.2
        have hcc := ccat_s (X := 600) (Y := 603) (Z := 604) (by decide) t1.fo p q pf pl qf ql (by rw [s2.len]; omega) s2.sm t1.lv 0
        rw [Drx_mk, show (((mx - mn).toNat : Nat) : Int) = mx - mn by omega] at ho
        dsimp only [FolW, hks] at ho
        rw [← hF']
        repeat' (first | (refine k_op1 ?_; (first | refine o_sv rfl (by decide) ?_ | (refine k_load ?_; (first | refine o_val (v_load rfl rfl rfl rfl) rfl rfl (by decide) ?_ | refine o_val (v_loadea rfl rfl) rfl rfl (by decide) ?_ | refine o_val (v_loadp rfl rfl rfl rfl) rfl rfl (by decide) ?_)) | (refine k_field ?_; (refine o_val (v_field rfl rfl) rfl rfl (by decide) ?_)) | (refine k_index ?_; (refine o_val (v_index (ys := [rx5 ok mk xk rk kk]) rfl (by omega) rfl rfl) rfl rfl (by decide) ?_)) | (refine k_blt ?_; (refine o_val (v_lenrm rfl) rfl rfl (by decide) ?_)) | (refine k_store ?_; (refine o_store0 rfl rfl rfl rfl rfl rfl ?_)))) | (refine k_ops ?_; (first | refine o_go (by first | exact .inl rfl | exact .inr ⟨_, _, _, rfl, rfl, rfl⟩) ?_ | refine o_nil ?_ | refine o_no rfl rfl (by decide) ?_ | refine o_casep rfl rfl (fun _ => ?_) (fun _ => ?_))) | (refine k_run ?_; (first | refine r_seq ?_ | refine r_region ?_ | refine r_false rfl ?_ | refine r_skip ?_ | refine r_block ?_ | refine r_tr ?_ | refine r_inBlock ?_ | refine r_if rfl (fun _ => ?_) (fun _ => ?_) | refine r_exit rfl ?_)) | (refine k_tr ?_; (first | (refine kt_end ?_; refine t_end mix (by kernel_rfl) ?_) | refine t_fol ho (by first | exact rfl | exact ⟨_, rfl, rfl, rfl⟩) rfl rfl rfl (by decide) rfl rfl rfl (by decide) ?_ | refine t_sv rfl (by first | exact rfl | exact ⟨_, rfl, rfl, rfl⟩) (by decide) ?_ | (refine kt_load ?_; (first | refine t_val (v_load rfl rfl rfl rfl) (by first | exact rfl | exact ⟨_, rfl, rfl, rfl⟩) rfl rfl (by decide) ?_ | refine t_val (v_loadea rfl rfl) (by first | exact rfl | exact ⟨_, rfl, rfl, rfl⟩) rfl rfl (by decide) ?_ | refine t_val (v_loadp rfl rfl rfl rfl) (by first | exact rfl | exact ⟨_, rfl, rfl, rfl⟩) rfl rfl (by decide) ?_)) | (refine kt_field ?_; (refine t_val (v_field rfl rfl) (by first | exact rfl | exact ⟨_, rfl, rfl, rfl⟩) rfl rfl (by decide) ?_)) | (refine kt_index ?_; (refine t_val (v_index (ys := [rx5 ok mk xk rk kk]) rfl (by omega) rfl rfl) (by first | exact rfl | exact ⟨_, rfl, rfl, rfl⟩) rfl rfl (by decide) ?_)) | (refine kt_bin ?_; (refine t_val (v_sub (wi64 (by omega) (by omega))) (by first | exact rfl | exact ⟨_, rfl, rfl, rfl⟩) rfl rfl (by decide) ?_)) | (refine kt_call ?_; (refine t_eff2o hcc (by first | exact rfl | exact ⟨_, rfl, rfl, rfl⟩) rfl rfl rfl (by decide) ?_)) | (refine kt_store ?_; (refine t_store0 (by first | exact rfl | exact ⟨_, rfl, rfl, rfl⟩) rfl rfl rfl rfl rfl rfl ?_)))))
        all_goals try (exfalso; omega)
        all_goals refine r_givev 603 603 rfl (upd_ne (upd_ne (upd_ne hG1 (by simp)) (by simp)) (by simp)) (Or.inl rfl) rfl (Quiet.upd (Quiet.upd (Quiet.upd hQ1 rfl) rfl) rfl) ?_
        all_goals refine r_givev 604 604 rfl (upd_ne (upd_ne (upd_ne (upd_ne hG2 (by simp)) (by simp)) (by simp)) (by simp)) (Or.inr rfl) rfl (Quiet.upd (Quiet.upd (Quiet.upd (Quiet.upd hQ2 rfl) rfl) rfl) rfl) ?_
        all_goals refine r_give 600 0 600 (raw := bbx 603 604) rfl rfl rfl rfl rfl ?_
        all_goals refine r_ret Tryd.func68 _ (res_cell rfl rfl rfl rfl rfl rfl) ⟨rfl, rfl⟩
      · rw [if_neg hC] at hF'
        rw [← hF']
        repeat' (first | (refine k_op1 ?_; (first | refine o_sv rfl (by decide) ?_ | (refine k_load ?_; (first | refine o_val (v_load rfl rfl rfl rfl) rfl rfl (by decide) ?_ | refine o_val (v_loadp rfl rfl rfl rfl) rfl rfl (by decide) ?_)) | (refine k_field ?_; (refine o_val (v_field rfl rfl) rfl rfl (by decide) ?_)) | (refine k_blt ?_; (refine o_val (v_lenrm rfl) rfl rfl (by decide) ?_)) | (refine k_store ?_; (refine o_store0 rfl rfl rfl rfl rfl rfl ?_)))) | (refine k_ops ?_; (first | refine o_go (by first | exact .inl rfl | exact .inr ⟨_, _, _, rfl, rfl, rfl⟩) ?_ | refine o_nil ?_ | refine o_no rfl rfl (by decide) ?_ | refine o_casep rfl rfl (fun _ => ?_) (fun _ => ?_))) | (refine k_run ?_; (first | refine r_seq ?_ | refine r_region ?_ | refine r_false rfl ?_ | refine r_skip ?_ | refine r_block ?_ | refine r_tr ?_ | refine r_inBlock ?_ | refine r_if rfl (fun _ => ?_) (fun _ => ?_) | refine r_exit rfl ?_)) | (refine k_tr ?_; (first | refine t_sv rfl (by first | exact rfl | exact ⟨_, rfl, rfl, rfl⟩) (by decide) ?_ | (refine kt_load ?_; (first | refine t_val (v_load rfl rfl rfl rfl) (by first | exact rfl | exact ⟨_, rfl, rfl, rfl⟩) rfl rfl (by decide) ?_ | refine t_val (v_loadp rfl rfl rfl rfl) (by first | exact rfl | exact ⟨_, rfl, rfl, rfl⟩) rfl rfl (by decide) ?_)) | (refine kt_field ?_; (refine t_val (v_field rfl rfl) (by first | exact rfl | exact ⟨_, rfl, rfl, rfl⟩) rfl rfl (by decide) ?_)))))
        all_goals try (exfalso; omega)
        all_goals refine r_givev 601 603 rfl (upd_ne (upd_ne (upd_ne hG1 (by simp)) (by simp)) (by simp)) (Or.inl rfl) rfl (Quiet.upd (Quiet.upd (Quiet.upd hQ1 rfl) rfl) rfl) ?_
        all_goals refine r_givev 602 604 rfl (upd_ne (upd_ne (upd_ne (upd_ne hG2 (by simp)) (by simp)) (by simp)) (by simp)) (Or.inr rfl) rfl (Quiet.upd (Quiet.upd (Quiet.upd (Quiet.upd hQ2 rfl) rfl) rfl) rfl) ?_
        all_goals refine r_give 600 0 600 (raw := bbx 603 604) rfl rfl rfl rfl rfl ?_
        all_goals refine r_ret Tryd.func68 _ (res_cell rfl rfl rfl rfl rfl rfl) ⟨rfl, rfl⟩
end Go.Proofs.YtjmbjgecfpggdaaDoor
namespace Go.Proofs.YtjmbjgecfpggdaaDoor
open Go.Ab Go.Rx
set_option maxHeartbeats 20000000
set_option maxRecDepth 100000
set_option linter.unusedVariables false
set_option linter.unusedSimpArgs false
set_option linter.unusedSectionVars false
attribute [local irreducible] Run Ops Op1 Does Val Tr PureF Eff1 NF Rel EffV EffM EffN
theorem pnL_drop : ∀ {ks : List Rx}, vnsL ks = true → ∀ i, 0 ≤ pnL (ks.drop i)
  | ks, h, 0 => pn_nn.2 ks h
  | [], h, i + 1 => Int.le_refl _
  | k :: ks, h, i + 1 => by
    rw [vnsL, Bool.and_eq_true] at h
    exact pnL_drop h.2 i
theorem build1_s (mn mx : Int) (rs : List Rg) (ks : List Rx) (t : Tb) (hs : Sm t) (hl : (t.lv.length : Int) + 1 ≤ 64) : FolW 57 [.d (Drx (.mk 1 mn mx rs ks))] t (bd (.mk 1 mn mx rs ks) t) := by
  rw [bd, if_pos rfl, Drx_mk]
  have hsh := shl64 (i := t.lv.length) (by omega)
  have e1 : (t.lv.map lv1).length = t.lv.length := List.length_map _
  have e2 := hs.len
  refine effn_of fun H hH hG1 hG2 hQ1 hQ2 => ?_
  have hH0 := hH ((0, 600), bbx 601 602) (by simp)
  have hH1 := hH ((0, 601), lvr t.lv) (by simp)
  have hH2 := hH ((0, 602), fwr t.fo) (by simp)
  refine specV_of Tryd.func57 (by kernel_rfl) rfl (by simp) ?_
  dsimp only [Tryd.f57]
  refine r_take 600 0 600 hH0 rfl rfl ?_
  refine r_taker 601 0 601 (upd_ne hH1 (by simp)) rfl rfl ?_
  refine r_taker 602 0 602 (upd_ne (upd_ne hH2 (by simp)) (by simp)) rfl rfl ?_
  refine r_alias 100601 rfl ?_
  refine r_alias 100602 rfl ?_
  repeat' (first | (refine k_op1 ?_; (first | refine o_sv rfl (by decide) ?_ | (refine k_load ?_; (refine o_val (v_load rfl rfl rfl rfl) rfl rfl (by decide) ?_)) | (refine k_field ?_; (refine o_val (v_field rfl rfl) rfl rfl (by decide) ?_)) | (refine k_bin ?_; (refine o_val (v_shl (by omega)) rfl rfl (by decide) ?_)) | (refine k_blt ?_; (first | refine o_app1 (g := n64) rfl rfl 0 rfl rfl rfl rfl rfl rfl rfl (by decide) (by omega) ?_ | refine o_val (v_lenr rfl) rfl rfl (by decide) ?_)) | (refine k_store ?_; (refine o_store0 rfl rfl rfl rfl rfl rfl ?_)) | (refine k_alloc ?_; (refine o_does (d_alloc rfl rfl (by decide)) ?_)) | (refine k_box ?_; (refine o_does (d_box_d rfl rfl (by decide)) ?_)) | (refine k_build ?_; (refine o_build rfl rfl rfl rfl rfl rfl rfl (by decide) ?_)) | (refine k_lit ?_; (refine o_lit rfl rfl rfl rfl rfl rfl rfl rfl (by decide) ?_)))) | (refine k_ops ?_; (first | refine o_go (by first | exact .inl rfl | exact .inr ⟨_, _, _, rfl, rfl, rfl⟩) ?_ | refine o_nil ?_)) | (refine k_run ?_; (first | refine r_seq ?_ | refine r_region ?_ | refine r_true rfl ?_ | refine r_block ?_ | refine r_tr ?_)) | (refine k_tr ?_; (first | refine t_sv rfl (by first | exact rfl | exact ⟨_, rfl, rfl, rfl⟩) (by decide) ?_ | (refine kt_load ?_; (refine t_val (v_load rfl rfl rfl rfl) (by first | exact rfl | exact ⟨_, rfl, rfl, rfl⟩) rfl rfl (by decide) ?_)) | (refine kt_field ?_; (refine t_val (v_field rfl rfl) (by first | exact rfl | exact ⟨_, rfl, rfl, rfl⟩) rfl rfl (by decide) ?_)) | (refine kt_blt ?_; (refine t_app1 (g := lv1) (by first | exact rfl | exact ⟨_, rfl, rfl, rfl⟩) rfl rfl rs rfl rfl rfl rfl rfl rfl rfl (by decide) (by omega) ?_)) | (refine kt_store ?_; ((refine t_tail mix (by kernel_rfl) ?_) /- t_store -/)) | (refine kt_lit ?_; (refine t_lit (by first | exact rfl | exact ⟨_, rfl, rfl, rfl⟩) rfl rfl rfl rfl rfl rfl rfl rfl (by decide) ?_)))))
  all_goals try (exfalso; omega)
  all_goals refine r_givev 31 603 rfl (upd_ne (upd_ne (upd_ne hG1 (by simp)) (by simp)) (by simp)) (Or.inl rfl) rfl (Quiet.upd (Quiet.upd (Quiet.upd hQ1 rfl) rfl) rfl) ?_
  all_goals refine r_givev 40 604 rfl (upd_ne (upd_ne (upd_ne (upd_ne hG2 (by simp)) (by simp)) (by simp)) (by simp)) (Or.inr rfl) rfl (Quiet.upd (Quiet.upd (Quiet.upd (Quiet.upd hQ2 rfl) rfl) rfl) rfl) ?_
  all_goals refine r_give 600 0 600 (raw := bbx 603 604) rfl rfl rfl rfl rfl ?_
  refine r_ret Tryd.func57 _ (res_cell rfl rfl rfl rfl rfl rfl) ⟨by dsimp only [ptc]; rw [← hsh, ← e1]; rfl, rfl⟩
theorem bd2 (mn mx : Int) (rs : List Rg) (ks : List Rx) (t : Tb) : bd (.mk 2 mn mx rs ks) t = bdC ks t ptE := by rw [bd, if_neg (by decide), if_pos rfl]
theorem bd3 (mn mx : Int) (rs : List Rg) (ks : List Rx) (t : Tb) : bd (.mk 3 mn mx rs ks) t = bdU ks t ptN := by rw [bd, if_neg (by decide), if_neg (by decide), if_pos rfl]
theorem build2_s (mn mx : Int) (rs : List Rg) (ks : List Rx) (hlen : ks.length ≤ 9223372036854775807) (hv : vnsL ks = true) (hk : ∀ k ∈ ks, KB k) (t : Tb) (hs : Sm t) (hl : (t.lv.length : Int) + pnL ks ≤ 64) : FolW 57 [.d (Drx (.mk 2 mn mx rs ks))] t (bd (.mk 2 mn mx rs ks) t) := by
  rw [bd2, Drx_mk]
  obtain ⟨F, hF⟩ : ∃ F, bdC ks t ptE = F := ⟨_, rfl⟩
  rw [hF]
  refine effn_of fun H hH hG1 hG2 hQ1 hQ2 => ?_
  have hH0 := hH ((0, 600), bbx 601 602) (by simp)
  have hH1 := hH ((0, 601), lvr t.lv) (by simp)
  have hH2 := hH ((0, 602), fwr t.fo) (by simp)
  refine specV_of Tryd.func57 (by kernel_rfl) rfl (by simp) ?_
  dsimp only [Tryd.f57]
  refine r_take 600 0 600 hH0 rfl rfl ?_
  refine r_taker 601 0 601 (upd_ne hH1 (by simp)) rfl rfl ?_
  refine r_taker 602 0 602 (upd_ne (upd_ne hH2 (by simp)) (by simp)) rfl rfl ?_
  refine r_alias 100601 rfl ?_
  refine r_alias 100602 rfl ?_
  repeat' (first | (refine k_op1 ?_; (first | refine o_sv rfl (by decide) ?_ | (refine k_load ?_; (refine o_val (v_load rfl rfl rfl rfl) rfl rfl (by decide) ?_)) | (refine k_field ?_; (refine o_val (v_field rfl rfl) rfl rfl (by decide) ?_)) | (refine k_blt ?_; (refine o_val (v_lenm rfl) rfl rfl (by decide) ?_)) | (refine k_store ?_; (refine o_store0 rfl rfl rfl rfl rfl rfl ?_)) | (refine k_alloc ?_; (refine o_does (d_alloc rfl rfl (by decide)) ?_)) | (refine k_box ?_; (refine o_does (d_box_d rfl rfl (by decide)) ?_)) | (refine k_build ?_; (refine o_build rfl rfl rfl rfl rfl rfl rfl (by decide) ?_)))) | (refine k_ops ?_; (first | refine o_go (by first | exact .inl rfl | exact .inr ⟨_, _, _, rfl, rfl, rfl⟩) ?_ | refine o_nil ?_)) | (refine k_run ?_; (first | refine r_seq ?_ | refine r_region ?_ | refine r_true rfl ?_ | refine r_false rfl ?_ | refine r_block ?_)))
  all_goals try (exfalso; omega)
  refine r_loop ?_
  refine r_less (r_inv (fun q : Nat × Tb × Pt => ⟨98, [(0, .ptr (0, 600) 0), (3, .ptr (0, 3) 0), (4, .ptr (0, 4) 0), (6, .ptr (0, 6) 0), (50, .d (.slice (ks.map rxc))), (51, I .i64 ks.length), (52, I .i64 (q.1 : Nat)), (100600, .al (0, 600) (1, 600))], [(4, ptb ptN), (6, ptb q.2.2), (600, bbx 601 602), (601, lvr q.2.1.lv), (602, fwr q.2.1.fo)], U3 H⟩)
    (fun q => q.1 ≤ ks.length ∧ bdC (ks.drop q.1) q.2.1 q.2.2 = F ∧ (∃ Z, Bl O1 Z t q.2.1 q.2.2) ∧ (q.2.1.lv.length : Int) + pnL (ks.drop q.1) ≤ 64) (fun q => ks.length - q.1) ?_ (0, t, ptE) ⟨Nat.zero_le _, hF, ⟨_, Bl.eps (Ex.refl hs.len)⟩, hl⟩) rfl rfl
  rintro ⟨i, t', p⟩ ⟨i1, i2, ⟨Z, i3⟩, i4⟩ ih
  simp only at i1 i2 i3 i4 ih ⊢
  by_cases hlt : i < ks.length
  · obtain ⟨k, hki⟩ : ∃ k, ks[i]? = some k := ⟨_, List.getElem?_eq_getElem hlt⟩
    have hmem := List.mem_of_getElem? hki
    have hvk := vnsL_mem hv k hmem
    have hP := pn_nn.1 k hvk
    have hPr : 0 ≤ pnL (ks.drop (i + 1)) := pnL_drop hv (i + 1)
    rw [drop_cons hki, pnL] at i4
    rw [drop_cons hki, bdC] at i2
    obtain ⟨s1, pf, pl⟩ := i3.sm hs (by omega)
    have hko := kidO hvk
    have hbl := hko.bl t' s1.len
    have hfw := hko.few t' s1.len
    obtain ⟨s2, qf, ql⟩ := hbl.sm s1 (by omega)
    have hk1 := hk k hmem t' s1 (by omega)
    generalize hB : bd k t' = r1 at *
    obtain ⟨t1, q⟩ := r1
    have hfw2 : (t1.lv.length : Int) ≤ t'.lv.length + pn k := hfw
    obtain ⟨ok, mk, xk, rk, kk⟩ := k
    rw [Drx_mk] at hk1
    dsimp only [FolW, hks] at hk1
    have hcc := ccat_s (X := 600) (Y := 603) (Z := 604) (by decide) t1.fo p q pf pl qf ql (by rw [s2.len]; omega) s2.sm t1.lv 0
    have ih' := ih (i + 1, (ccat p q t1).1, (ccat p q t1).2) ⟨by simp only; omega, i2, ⟨_, i3.cat hbl⟩, by show (t1.lv.length : Int) + _ ≤ _; simp only; omega⟩ (by simp only; omega)
    repeat' (first | (refine k_op1 ?_; (first | refine o_sv rfl (by decide) ?_ | (refine k_load ?_; (first | refine o_val (v_loadea rfl rfl) rfl rfl (by decide) ?_ | refine o_val (v_loadp rfl rfl rfl rfl) rfl rfl (by decide) ?_)) | (refine k_index ?_; (refine o_val (v_index (ys := ks.map rxc) rfl (by omega) (idx_rx hki) rfl) rfl rfl (by decide) ?_)) | (refine k_bin ?_; (refine o_val (v_add (wi64 (by omega) (by omega))) rfl rfl (by decide) ?_)) | (refine k_store ?_; (refine o_store0 rfl rfl rfl rfl rfl rfl ?_)) | (refine k_alloc ?_; (refine o_does (d_alloc rfl rfl (by decide)) ?_)))) | (refine k_ops ?_; (first | refine o_go (by first | exact .inl rfl | exact .inr ⟨_, _, _, rfl, rfl, rfl⟩) ?_ | refine o_nil ?_)) | (refine k_run ?_; (first | refine r_seq ?_ | refine r_region ?_ | refine r_skip ?_ | refine r_block ?_ | refine r_tr ?_ | refine r_inBlock ?_ | refine r_if rfl (fun _ => ?_) (fun _ => ?_) | refine r_exit rfl ?_)) | (refine k_tr ?_; (first | (refine kt_end ?_; refine t_end mix (by kernel_rfl) ?_) | refine t_fol hk1 (by first | exact rfl | exact ⟨_, rfl, rfl, rfl⟩) rfl rfl rfl (by decide) rfl rfl rfl (by decide) ?_ | refine t_sv rfl (by first | exact rfl | exact ⟨_, rfl, rfl, rfl⟩) (by decide) ?_ | (refine kt_load ?_; (refine t_val (v_loadp rfl rfl rfl rfl) (by first | exact rfl | exact ⟨_, rfl, rfl, rfl⟩) rfl rfl (by decide) ?_)) | (refine kt_call ?_; (refine t_eff2o hcc (by first | exact rfl | exact ⟨_, rfl, rfl, rfl⟩) rfl rfl rfl (by decide) ?_)) | (refine kt_store ?_; (refine t_store0 (by first | exact rfl | exact ⟨_, rfl, rfl, rfl⟩) rfl rfl rfl rfl rfl rfl ?_)))))
    all_goals try (exfalso; omega)
    all_goals refine r_ren 603 601 rfl rfl ?_
    all_goals refine r_ren 604 602 rfl rfl ?_
    all_goals exact r_less ih' rfl rfl
  · obtain rfl : i = ks.length := by omega
    rw [List.drop_length, bdC] at i2
    rw [← i2]
    repeat' (first | (refine k_op1 ?_; (first | refine o_sv rfl (by decide) ?_ | (refine k_load ?_; (refine o_val (v_loadp rfl rfl rfl rfl) rfl rfl (by decide) ?_)) | (refine k_store ?_; (refine o_store0 rfl rfl rfl rfl rfl rfl ?_)))) | (refine k_ops ?_; (first | refine o_go (by first | exact .inl rfl | exact .inr ⟨_, _, _, rfl, rfl, rfl⟩) ?_ | refine o_nil ?_)) | (refine k_run ?_; (first | refine r_seq ?_ | refine r_region ?_ | refine r_skip ?_ | refine r_block ?_ | refine r_if rfl (fun _ => ?_) (fun _ => ?_) | refine r_exit rfl ?_)))
    all_goals try (exfalso; omega)
    all_goals refine r_givev 601 603 rfl (upd_ne (upd_ne (upd_ne hG1 (by simp)) (by simp)) (by simp)) (Or.inl rfl) rfl (Quiet.upd (Quiet.upd (Quiet.upd hQ1 rfl) rfl) rfl) ?_
    all_goals refine r_givev 602 604 rfl (upd_ne (upd_ne (upd_ne (upd_ne hG2 (by simp)) (by simp)) (by simp)) (by simp)) (Or.inr rfl) rfl (Quiet.upd (Quiet.upd (Quiet.upd (Quiet.upd hQ2 rfl) rfl) rfl) rfl) ?_
    all_goals refine r_give 600 0 600 (raw := bbx 603 604) rfl rfl rfl rfl rfl ?_
    all_goals refine r_ret Tryd.func57 _ (res_cell rfl rfl rfl rfl rfl rfl) ⟨rfl, rfl⟩
theorem build3_s (mn mx : Int) (rs : List Rg) (ks : List Rx) (hlen : ks.length ≤ 9223372036854775807) (hv : vnsL ks = true) (hk : ∀ k ∈ ks, KB k) (t : Tb) (hs : Sm t) (hl : (t.lv.length : Int) + pnL ks ≤ 64) : FolW 57 [.d (Drx (.mk 3 mn mx rs ks))] t (bd (.mk 3 mn mx rs ks) t) := by
  rw [bd3, Drx_mk]
  obtain ⟨F, hF⟩ : ∃ F, bdU ks t ptN = F := ⟨_, rfl⟩
  rw [hF]
  refine effn_of fun H hH hG1 hG2 hQ1 hQ2 => ?_
  have hH0 := hH ((0, 600), bbx 601 602) (by simp)
  have hH1 := hH ((0, 601), lvr t.lv) (by simp)
  have hH2 := hH ((0, 602), fwr t.fo) (by simp)
  refine specV_of Tryd.func57 (by kernel_rfl) rfl (by simp) ?_
  dsimp only [Tryd.f57]
  refine r_take 600 0 600 hH0 rfl rfl ?_
  refine r_taker 601 0 601 (upd_ne hH1 (by simp)) rfl rfl ?_
  refine r_taker 602 0 602 (upd_ne (upd_ne hH2 (by simp)) (by simp)) rfl rfl ?_
  refine r_alias 100601 rfl ?_
  refine r_alias 100602 rfl ?_
  repeat' (first | (refine k_op1 ?_; (first | refine o_sv rfl (by decide) ?_ | (refine k_load ?_; (refine o_val (v_load rfl rfl rfl rfl) rfl rfl (by decide) ?_)) | (refine k_field ?_; (refine o_val (v_field rfl rfl) rfl rfl (by decide) ?_)) | (refine k_blt ?_; (refine o_val (v_lenm rfl) rfl rfl (by decide) ?_)) | (refine k_alloc ?_; (refine o_does (d_alloc rfl rfl (by decide)) ?_)) | (refine k_box ?_; (refine o_does (d_box_d rfl rfl (by decide)) ?_)))) | (refine k_ops ?_; (first | refine o_go (by first | exact .inl rfl | exact .inr ⟨_, _, _, rfl, rfl, rfl⟩) ?_ | refine o_nil ?_)) | (refine k_run ?_; (first | refine r_seq ?_ | refine r_region ?_ | refine r_true rfl ?_ | refine r_false rfl ?_ | refine r_block ?_)))
  all_goals try (exfalso; omega)
  refine r_loop ?_
  refine r_less (r_inv (fun q : Nat × Tb × Pt => ⟨98, [(0, .ptr (0, 600) 0), (3, .ptr (0, 3) 0), (4, .ptr (0, 4) 0), (9, .ptr (0, 9) 0), (67, .d (.slice (ks.map rxc))), (68, I .i64 ks.length), (69, I .i64 (q.1 : Nat)), (100600, .al (0, 600) (1, 600))], [(4, ptb ptN), (9, ptb q.2.2), (600, bbx 601 602), (601, lvr q.2.1.lv), (602, fwr q.2.1.fo)], U3 H⟩)
    (fun q => q.1 ≤ ks.length ∧ bdU (ks.drop q.1) q.2.1 q.2.2 = F ∧ (∃ Z, Bl O1 Z t q.2.1 q.2.2) ∧ (q.2.1.lv.length : Int) + pnL (ks.drop q.1) ≤ 64) (fun q => ks.length - q.1) ?_ (0, t, ptN) ⟨Nat.zero_le _, hF, ⟨_, Bl.none (Ex.refl hs.len)⟩, hl⟩) rfl rfl
  rintro ⟨i, t', p⟩ ⟨i1, i2, ⟨Z, i3⟩, i4⟩ ih
  simp only at i1 i2 i3 i4 ih ⊢
  by_cases hlt : i < ks.length
  · obtain ⟨k, hki⟩ : ∃ k, ks[i]? = some k := ⟨_, List.getElem?_eq_getElem hlt⟩
    have hmem := List.mem_of_getElem? hki
    have hvk := vnsL_mem hv k hmem
    have hP := pn_nn.1 k hvk
    have hPr : 0 ≤ pnL (ks.drop (i + 1)) := pnL_drop hv (i + 1)
    rw [drop_cons hki, pnL] at i4
    rw [drop_cons hki, bdU] at i2
    obtain ⟨s1, pf, pl⟩ := i3.sm hs (by omega)
    have hko := kidO hvk
    have hbl := hko.bl t' s1.len
    have hfw := hko.few t' s1.len
    obtain ⟨s2, qf, ql⟩ := hbl.sm s1 (by omega)
    have hk1 := hk k hmem t' s1 (by omega)
    generalize hB : bd k t' = r1 at *
    obtain ⟨t1, q⟩ := r1
    have hfw2 : (t1.lv.length : Int) ≤ t'.lv.length + pn k := hfw
    obtain ⟨ok, mk, xk, rk, kk⟩ := k
    rw [Drx_mk] at hk1
    dsimp only [FolW, hks] at hk1
    have ih' := ih (i + 1, t1, por p q) ⟨by simp only; omega, i2, ⟨_, i3.or hbl⟩, by simp only; omega⟩ (by simp only; omega)
    obtain ⟨qf', ql', qn⟩ := q
    obtain ⟨pf', pl', pnn⟩ := p
    dsimp only [por, ptb] at ih' qf ql pf pl ⊢
    have ho1 := or64 pf qf
    have ho2 := or64 pl ql
    cases pnn with
    | true =>
      rw [Bool.true_or] at ih'
      repeat' (first | (refine k_op1 ?_; (first | refine o_folr hk1 rfl rfl rfl (by decide) rfl rfl rfl (by decide) rfl rfl rfl rfl ?_ | refine o_sv rfl (by decide) ?_ | (refine k_load ?_; (first | refine o_val (v_load rfl rfl rfl rfl) rfl rfl (by decide) ?_ | refine o_val (v_loadea rfl rfl) rfl rfl (by decide) ?_ | refine o_val (v_loadp rfl rfl rfl rfl) rfl rfl (by decide) ?_)) | (refine k_field ?_; (refine o_val (v_field rfl rfl) rfl rfl (by decide) ?_)) | (refine k_index ?_; (refine o_val (v_index (ys := ks.map rxc) rfl (by omega) (idx_rx hki) rfl) rfl rfl (by decide) ?_)) | (refine k_bin ?_; (first | refine o_val v_bor rfl rfl (by decide) ?_ | refine o_val (v_add (wi64 (by omega) (by omega))) rfl rfl (by decide) ?_)) | (refine k_store ?_; (refine o_store0 rfl rfl rfl rfl rfl rfl ?_)) | (refine k_alloc ?_; (refine o_does (d_alloc rfl rfl (by decide)) ?_)) | (refine k_build ?_; (refine o_build rfl rfl rfl rfl rfl rfl rfl (by decide) ?_)))) | (refine k_ops ?_; (first | refine o_go (by first | exact .inl rfl | exact .inr ⟨_, _, _, rfl, rfl, rfl⟩) ?_ | refine o_nil ?_ | refine o_no rfl rfl (by decide) ?_)) | (refine k_run ?_; (first | refine r_seq ?_ | refine r_region ?_ | refine r_skip ?_ | refine r_block ?_ | refine r_inBlock ?_ | refine r_if rfl (fun _ => ?_) (fun _ => ?_) | refine r_exit rfl ?_)))
      all_goals try (exfalso; omega)
      all_goals (rw [← ho1, ← ho2] at ih'; exact r_less ih' rfl rfl)
    | false =>
      rw [Bool.false_or] at ih'
      repeat' (first | (refine k_op1 ?_; (first | refine o_folr hk1 rfl rfl rfl (by decide) rfl rfl rfl (by decide) rfl rfl rfl rfl ?_ | refine o_sv rfl (by decide) ?_ | (refine k_load ?_; (first | refine o_val (v_load rfl rfl rfl rfl) rfl rfl (by decide) ?_ | refine o_val (v_loadea rfl rfl) rfl rfl (by decide) ?_ | refine o_val (v_loadp rfl rfl rfl rfl) rfl rfl (by decide) ?_)) | (refine k_field ?_; (refine o_val (v_field rfl rfl) rfl rfl (by decide) ?_)) | (refine k_index ?_; (refine o_val (v_index (ys := ks.map rxc) rfl (by omega) (idx_rx hki) rfl) rfl rfl (by decide) ?_)) | (refine k_bin ?_; (first | refine o_val v_bor rfl rfl (by decide) ?_ | refine o_val (v_add (wi64 (by omega) (by omega))) rfl rfl (by decide) ?_)) | (refine k_store ?_; (refine o_store0 rfl rfl rfl rfl rfl rfl ?_)) | (refine k_alloc ?_; (refine o_does (d_alloc rfl rfl (by decide)) ?_)) | (refine k_build ?_; (refine o_build rfl rfl rfl rfl rfl rfl rfl (by decide) ?_)))) | (refine k_ops ?_; (first | refine o_go (by first | exact .inl rfl | exact .inr ⟨_, _, _, rfl, rfl, rfl⟩) ?_ | refine o_nil ?_)) | (refine k_run ?_; (first | refine r_seq ?_ | refine r_region ?_ | refine r_skip ?_ | refine r_block ?_ | refine r_inBlock ?_ | refine r_if rfl (fun _ => ?_) (fun _ => ?_) | refine r_exit rfl ?_)))
      all_goals try (exfalso; omega)
      all_goals (rw [← ho1, ← ho2] at ih'; exact r_less ih' rfl rfl)
  · obtain rfl : i = ks.length := by omega
    rw [List.drop_length, bdU] at i2
    rw [← i2]
    repeat' (first | (refine k_op1 ?_; (first | refine o_sv rfl (by decide) ?_ | (refine k_load ?_; (refine o_val (v_loadp rfl rfl rfl rfl) rfl rfl (by decide) ?_)) | (refine k_store ?_; (refine o_store0 rfl rfl rfl rfl rfl rfl ?_)))) | (refine k_ops ?_; (first | refine o_go (by first | exact .inl rfl | exact .inr ⟨_, _, _, rfl, rfl, rfl⟩) ?_ | refine o_nil ?_)) | (refine k_run ?_; (first | refine r_seq ?_ | refine r_region ?_ | refine r_skip ?_ | refine r_block ?_ | refine r_if rfl (fun _ => ?_) (fun _ => ?_) | refine r_exit rfl ?_)))
    all_goals try (exfalso; omega)
    all_goals refine r_givev 601 603 rfl (upd_ne (upd_ne (upd_ne hG1 (by simp)) (by simp)) (by simp)) (Or.inl rfl) rfl (Quiet.upd (Quiet.upd (Quiet.upd hQ1 rfl) rfl) rfl) ?_
    all_goals refine r_givev 602 604 rfl (upd_ne (upd_ne (upd_ne (upd_ne hG2 (by simp)) (by simp)) (by simp)) (by simp)) (Or.inr rfl) rfl (Quiet.upd (Quiet.upd (Quiet.upd (Quiet.upd hQ2 rfl) rfl) rfl) rfl) ?_
    all_goals refine r_give 600 0 600 (raw := bbx 603 604) rfl rfl rfl rfl rfl ?_
    all_goals refine r_ret Tryd.func57 _ (res_cell rfl rfl rfl rfl rfl rfl) ⟨rfl, rfl⟩
theorem build4_s (op mn mx : Int) (rs : List Rg) (ks : List Rx) (h1 : op ≠ 1) (h2 : op ≠ 2) (h3 : op ≠ 3) (t : Tb) (r : Tb × Pt) (hr : FolW 68 [.d (Drx (.mk op mn mx rs ks))] t r) : FolW 57 [.d (Drx (.mk op mn mx rs ks))] t r := by
  rw [Drx_mk] at hr ⊢
  dsimp only [FolW, hks] at hr
  refine effn_of fun H hH hG1 hG2 hQ1 hQ2 => ?_
  have hH0 := hH ((0, 600), bbx 601 602) (by simp)
  have hH1 := hH ((0, 601), lvr t.lv) (by simp)
  have hH2 := hH ((0, 602), fwr t.fo) (by simp)
  refine specV_of Tryd.func57 (by kernel_rfl) rfl (by simp) ?_
  dsimp only [Tryd.f57]
  refine r_take 600 0 600 hH0 rfl rfl ?_
  refine r_taker 601 0 601 (upd_ne hH1 (by simp)) rfl rfl ?_
  refine r_taker 602 0 602 (upd_ne (upd_ne hH2 (by simp)) (by simp)) rfl rfl ?_
  refine r_alias 100601 rfl ?_
  refine r_alias 100602 rfl ?_
  repeat' (first | (refine k_op1 ?_; (first | refine o_folr hr rfl rfl rfl (by decide) rfl rfl rfl (by decide) rfl rfl rfl rfl ?_ | refine o_sv rfl (by decide) ?_ | (refine k_load ?_; (first | refine o_val (v_loada rfl rfl rfl) rfl rfl (by decide) ?_ | refine o_val (v_load rfl rfl rfl rfl) rfl rfl (by decide) ?_)) | (refine k_field ?_; (refine o_val (v_field rfl rfl) rfl rfl (by decide) ?_)) | (refine k_blt ?_; (first | refine o_val (v_lenm rfl) rfl rfl (by decide) ?_ | refine o_val (v_lenrm rfl) rfl rfl (by decide) ?_)) | (refine k_store ?_; (refine o_store0 rfl rfl rfl rfl rfl rfl ?_)) | (refine k_alloc ?_; (refine o_does (d_alloc rfl rfl (by decide)) ?_)) | (refine k_box ?_; (refine o_does (d_box_d rfl rfl (by decide)) ?_)) | (refine k_build ?_; (refine o_build rfl rfl rfl rfl rfl rfl rfl (by decide) ?_)))) | (refine k_ops ?_; (first | refine o_go (by first | exact .inl rfl | exact .inr ⟨_, _, _, rfl, rfl, rfl⟩) ?_ | refine o_nil ?_)) | (refine k_run ?_; (first | refine r_seq ?_ | refine r_region ?_ | refine r_skip ?_ | refine r_block ?_ | refine r_inBlock ?_ | refine r_if rfl (fun _ => ?_) (fun _ => ?_))))
  all_goals try (exfalso; omega)
  all_goals refine r_givev 601 603 rfl (upd_ne (upd_ne (upd_ne hG1 (by simp)) (by simp)) (by simp)) (Or.inl rfl) rfl (Quiet.upd (Quiet.upd (Quiet.upd hQ1 rfl) rfl) rfl) ?_
  all_goals refine r_givev 602 604 rfl (upd_ne (upd_ne (upd_ne (upd_ne hG2 (by simp)) (by simp)) (by simp)) (by simp)) (Or.inr rfl) rfl (Quiet.upd (Quiet.upd (Quiet.upd (Quiet.upd hQ2 rfl) rfl) rfl) rfl) ?_
  all_goals refine r_give 600 0 600 (raw := bbx 603 604) rfl rfl rfl rfl rfl ?_
  all_goals refine r_ret Tryd.func57 _ (res_cell rfl rfl rfl rfl rfl rfl) ⟨rfl, rfl⟩
/-- build adds the leaves of a valid expression -/
theorem build_s : ∀ e : Rx, vns e = true → fit e → KB e := by
  refine Rx.ind' fun op mn mx rs ks ih hv hf t hs hl => ?_
  rw [vns, Bool.and_eq_true] at hv
  rw [fit] at hf
  have ih' : ∀ k ∈ ks, KB k := fun k hk => ih k hk (vnsL_mem hv.2 k hk) (fitL_mem hf.2.2 k hk)
  have hvn := hv.1
  rw [vn] at hvn
  by_cases h1 : op = 1
  · subst h1
    rw [Rx.pn, if_pos rfl] at hl
    exact build1_s mn mx rs ks t hs hl
  rw [if_neg h1] at hvn
  by_cases h2 : op = 2
  · subst h2
    rw [Rx.pn, if_neg (by decide), if_neg (by decide)] at hl
    exact build2_s mn mx rs ks hf.2.1 hv.2 ih' t hs hl
  rw [if_neg h2] at hvn
  by_cases h3 : op = 3
  · subst h3
    rw [Rx.pn, if_neg (by decide), if_neg (by decide)] at hl
    exact build3_s mn mx rs ks hf.2.1 hv.2 ih' t hs hl
  rw [if_neg h3] at hvn
  by_cases h4 : op = 4
  · subst h4
    rw [if_pos rfl] at hvn
    simp only [Bool.and_eq_true, Bool.or_eq_true, decide_eq_true_eq] at hvn
    obtain ⟨⟨⟨⟨a1, a2⟩, a3⟩, a4⟩, a5⟩ := hvn
    match ks, a2, ih', hv, hl with
    | [k], _, ih', hv, hl =>
      have hvk := vnsL_mem hv.2 k (by simp)
      rw [Rx.pn, if_neg (by decide), if_pos rfl, pnL, pnL, Int.add_zero] at hl
      have hb : bd (.mk 4 mn mx rs [k]) t = rp (bd k) mn mx t := by
        rw [bd, if_neg (by decide), if_neg (by decide), if_neg (by decide)]
        have : (fun t => bd1 [k] t) = bd k := by funext t; rw [bd1]
        rw [this]
      rw [hb]
      exact build4_s 4 mn mx rs [k] (by decide) (by decide) (by decide) t _ (frep_s 4 mn mx rs k hvk (ih' k (by simp)) a3 a4 a5 t hs hl)
  · rw [if_neg h4] at hvn; cases hvn
end Go.Proofs.YtjmbjgecfpggdaaDoor
namespace Go.Proofs.YtjmbjgecfpggdaaDoor
open Go.Ab Go.Rx
set_option maxHeartbeats 20000000
set_option maxRecDepth 100000
set_option linter.unusedVariables false
set_option linter.unusedSimpArgs false
set_option linter.unusedSectionVars false
attribute [local irreducible] Run Ops Op1 Does Val Tr PureF Eff1 NF Rel EffV EffM EffN
abbrev tb0 : Tb := ⟨[], []⟩
/-- the table of an expression, as it lies in memory -/
abbrev ofB (e : Rx) : Blk := tbx (bd e tb0).1.lv (bd e tb0).2.f (bd e tb0).2.l (bd e tb0).1.fo (bd e tb0).2.nu
theorem of_s (e : Rx) (hv : vns e = true) (hf : fit e) (hp : Rx.pn e ≤ 64) (H : Hf) : Ab.Spec Tryd.prog 45 [.d (Drx e)] H (fun r H' => r = .new (ofB e) ∧ H' = H) := by
  have hk := build_s e hv hf tb0 ⟨rfl, by simp⟩ (by simp; exact hp)
  dsimp only [ofB]
  generalize hB : bd e tb0 = r1 at *
  obtain ⟨⟨lv, fo⟩, p⟩ := r1
  obtain ⟨op, mn, mx, rs, ks⟩ := e
  rw [Drx_mk] at hk ⊢
  dsimp only [FolW, hks] at hk
  refine spec_of Tryd.func45 (by kernel_rfl) rfl (by simp) ?_
  dsimp only [Tryd.f45]
  repeat' (first | (refine k_op1 ?_; (first | refine o_folr hk rfl rfl rfl (by decide) rfl rfl rfl (by decide) rfl rfl rfl rfl ?_ | refine o_sv rfl (by decide) ?_ | (refine k_load ?_; (refine o_val (v_loadp rfl rfl rfl rfl) rfl rfl (by decide) ?_)) | (refine k_store ?_; (refine o_store0 rfl rfl rfl rfl rfl rfl ?_)) | (refine k_alloc ?_; (refine o_does (d_alloc rfl rfl (by decide)) ?_)) | (refine k_box ?_; (first | (refine o_does (d_box rfl rfl rfl rfl rfl (by decide)) ?_; refine o_ren 6 600 rfl rfl ?_; refine o_cell_row 600 0 601 22 1 rfl rfl rfl rfl ?_; refine o_cell_row 600 3 602 77 1 rfl rfl rfl rfl ?_) | refine o_does (d_box_d rfl rfl (by decide)) ?_)) | (refine k_build ?_; (refine o_build rfl rfl rfl rfl rfl rfl rfl (by decide) ?_)))) | (refine k_ops ?_; (first | refine o_go (by first | exact .inl rfl | exact .inr ⟨_, _, _, rfl, rfl, rfl⟩) ?_ | refine o_nil ?_)) | (refine k_run ?_; (first | refine r_seq ?_ | refine r_region ?_ | refine r_tr ?_)) | (refine k_tr ?_; (first | (refine kt_end ?_; refine t_end mix (by kernel_rfl) ?_) | refine t_sv rfl (by first | exact rfl | exact ⟨_, rfl, rfl, rfl⟩) (by decide) ?_ | (refine kt_load ?_; (refine t_val (v_load rfl rfl rfl rfl) (by first | exact rfl | exact ⟨_, rfl, rfl, rfl⟩) rfl rfl (by decide) ?_)) | (refine kt_field ?_; (refine t_val (v_field rfl rfl) (by first | exact rfl | exact ⟨_, rfl, rfl, rfl⟩) rfl rfl (by decide) ?_)) | (refine kt_store ?_; (refine t_store0 (by first | exact rfl | exact ⟨_, rfl, rfl, rfl⟩) rfl rfl rfl rfl rfl rfl ?_)))))
  all_goals try (exfalso; omega)
  refine r_freeze 601 rfl ?_
  refine r_freeze 602 rfl ?_
  refine r_ret Tryd.func45 _ (res_new (ms := 600) rfl rfl rfl rfl) ⟨rfl, rfl⟩
end Go.Proofs.YtjmbjgecfpggdaaDoor
