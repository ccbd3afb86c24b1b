/- A law holds for every input; no condition. -/
import Derived.Test.YtlgdilkmcfpjjaaWn
import Derived.Test.YtlgdilkmcfpjjaaFe
import Derived.Test.YtlgdilkmcfpjjaaFf
set_option linter.all false
set_option linter.unusedVariables false
set_option linter.unusedSimpArgs false
namespace Go.Proofs.Ytlgdilkmcfpjjaa
open Go.Ab Go.Srt
set_option maxHeartbeats 20000000
set_option linter.unusedVariables false
set_option linter.unusedSimpArgs false
attribute [local irreducible] Run Ops Op1 Does Val Tr PureF Eff1 NF Rel EffV

theorem t_tailB {P : Program} {f : FuncId} {R : Post} {id : Nat} {ops : List Oper} {k : List Go.Item} {s0 s : St} {done : List Eff} {l : List Oper} (t : TypeId) {x y : Operand} {ty : TypeId} {pos : String} {aft : Array Edge} {gd : Option (Nat × Bool)} {fs : List Nat} (hmix : P.follows .mixedOrders = true)
    (hc : (decide (done.length ≤ ops.length) && ((ops.take done.length).length == done.length && okPairs (masks [] (ops.take done.length)) [] done && okBack (ops.take done.length) 0) && okBack ops 0 && tailOK (masks [] ops) done.length ops.length) = true)
    (hf : done.flatMap (·.free) = fs) (hf2 : (fs.all fun d => freeHp d s0.hp && freeTm d s0.tm) = true)
    (h : Ops P f R ops.toArray (⟨none, .store t x y, ty, pos, aft, gd⟩ :: l) k s) : Tr P f R id ops k s0 done s (⟨none, .store t x y, ty, pos, aft, gd⟩ :: l) := t_tail hmix (okTail_of hc hf hf2) h
/-- the first k present symbols of a length -/
def grp (l : List Int) (k m : Nat) : List Nat := ((ordL l).take k).filter fun i => decide (l.getD i 0 = (m : Int))
def grpD (q : List Nat) : D := if q = [] then .lit nilS else nats q
def fstC (l : List Int) (q : List Nat) : Int := match q with
  | [] => 0
  | i :: _ => (codesH l).getD i 0
theorem grp_succ {l : List Int} {k i : Nat} (h : (ordL l)[k]? = some i) (m : Nat) : grp l (k + 1) m = if l.getD i 0 = (m : Int) then grp l k m ++ [i] else grp l k m := by
  obtain ⟨h1, h2⟩ := List.getElem?_eq_some_iff.1 h
  rw [grp, List.take_succ_eq_append_getElem h1, List.filter_append, h2, List.filter_cons, List.filter_nil]
  by_cases hm : l.getD i 0 = (m : Int)
  · rw [if_pos hm, if_pos (by simpa using hm)]; rfl
  · rw [if_neg hm, if_neg (by simpa using hm), List.append_nil]; rfl
def ds0 : List D := List.replicate 16 (Du64 0) ++ List.replicate 16 (.lit nilS) ++ [Dint 0]
def tbJ (l : List Int) (q : Nat × Nat × List D) : Prop :=
  q.1 ≤ (ordL l).length ∧ q.2.1 ≤ 15 ∧ q.2.2.length = 33 ∧ (∀ m, m < 16 → q.2.2[m]? = some (Du64 (fstC l (grp l q.1 m)))) ∧
  (∀ m, 1 ≤ m → m < 16 → m ≠ q.2.1 → q.2.2[16 + m]? = some (grpD (grp l q.1 m))) ∧ q.2.2[32]? = some (Dint (q.2.1 : Nat)) ∧
  (∀ m, q.2.1 < m → grp l q.1 m = []) ∧ (1 ≤ q.2.1 → grp l q.1 q.2.1 ≠ []) ∧ (∀ i ∈ (ordL l).drop q.1, (q.2.1 : Int) ≤ l.getD i 0)
theorem tbJ0 (l : List Int) : tbJ l (0, 0, ds0) := by
  refine ⟨by simp, by simp, rfl, fun m hm => ?_, fun m h1 h2 h3 => ?_, rfl, fun m hm => rfl, fun h => absurd h (by simp), fun i hi => ?_⟩
  · have : m = 0 ∨ m = 1 ∨ m = 2 ∨ m = 3 ∨ m = 4 ∨ m = 5 ∨ m = 6 ∨ m = 7 ∨ m = 8 ∨ m = 9 ∨ m = 10 ∨ m = 11 ∨ m = 12 ∨ m = 13 ∨ m = 14 ∨ m = 15 := by omega
    rcases this with h | h | h | h | h | h | h | h | h | h | h | h | h | h | h | h <;> subst h <;> rfl
  · have : m = 1 ∨ m = 2 ∨ m = 3 ∨ m = 4 ∨ m = 5 ∨ m = 6 ∨ m = 7 ∨ m = 8 ∨ m = 9 ∨ m = 10 ∨ m = 11 ∨ m = 12 ∨ m = 13 ∨ m = 14 ∨ m = 15 := by omega
    rcases this with h | h | h | h | h | h | h | h | h | h | h | h | h | h | h <;> subst h <;> rfl
  · have := (ordL_mem l i (List.mem_of_mem_drop hi)).2
    simp only; omega
theorem tableOf_s (l : List Int) (hl : l.length ≤ 1024) (hv : ∀ x ∈ l, 0 ≤ x ∧ x ≤ 15) : ∀ H, Ab.Spec Try.prog 37 [.d (ints l)] H (fun r H' => (∃ q : Nat × Nat × List D, q.1 = (ordL l).length ∧ tbJ l q ∧ r = .new (.box ((q.2.2.set (16 + q.2.1) (nats (grp l q.1 q.2.1))).map .d))) ∧ H' = H) := by
  intro H
  refine spec_of Try.func37 (by kernel_rfl) rfl (by simp) ?_
  dsimp only [Try.f37]
  have h1 := codesOf_s l hl hv
  have h2 := order_s l hl hv
  have hol : (ordL l).length ≤ 1024 := by
    rw [ordL, isort_length]; have := pidx_len l 0; omega
  have hcl : (codesH l).length = l.length := by rw [codesH, cl_len, List.length_replicate]
  repeat' (first | (refine k_op1 ?_; (first | refine o_sv rfl (by decide) ?_ | (refine k_blt ?_; (refine o_val (v_lenm rfl) rfl rfl (by decide) ?_)) | (refine k_call ?_; (first | refine o_fn h1 rfl (by decide) ?_ | refine o_fn h2 rfl (by decide) ?_)) | (refine k_box ?_; (refine o_does (d_box rfl rfl rfl rfl rfl (by decide)) ?_)) | (refine k_build ?_; (refine o_build rfl rfl rfl rfl rfl rfl rfl (by decide) ?_)))) | (refine k_ops ?_; (first | refine o_go (by first | exact .inl rfl | exact .inr ⟨_, _, _, rfl, rfl, rfl⟩) ?_ | refine o_nil ?_)) | (refine k_run ?_; (first | refine r_seq ?_ | refine r_region ?_ | refine r_block ?_)))
  refine r_cell_row 9 16 9000 3 1 rfl rfl rfl rfl ?_
  refine r_loop ?_
  refine r_less (r_inv (fun q : Nat × Nat × List D => ⟨60, [(0, .d (ints l)), (3, .ptr (0, 9) 0), (4, .d (u64s (codesH l))), (13, .d (nats (ordL l))), (14, I .i64 (ordL l).length), (15, I .i64 (q.1 : Nat))], [(9, .box ((q.2.2.map .d).set (16 + q.2.1) (.ref (0, 9000)))), (9000, .row 3 1 ((grp l q.1 q.2.1).map fun i => [Dint (i : Nat)]))], H⟩) (tbJ l) (fun q => (ordL l).length - q.1) ?_ (0, 0, ds0) (tbJ0 l)) rfl rfl
  intro ⟨k, cur, ds⟩ hJ ih
  obtain ⟨j1, j2, j3, j4, j5, j6, j7, j8, j9⟩ := hJ
  simp only at j1 j2 j3 j4 j5 j6 j7 j8 j9 ih ⊢
  by_cases hlt : k < (ordL l).length
  · obtain ⟨i, hi⟩ : ∃ i, (ordL l)[k]? = some i := ⟨_, List.getElem?_eq_getElem hlt⟩
    obtain ⟨hil, hi0⟩ := ordL_mem l i (List.mem_of_getElem? hi)
    have hx0 : l[i]? = some (l.getD i 0) := by rw [List.getElem?_eq_getElem hil, List.getD, List.getElem?_eq_getElem hil]; rfl
    have hx1 := hv _ (List.mem_of_getElem? hx0)
    obtain ⟨m, hm⟩ : ∃ m : Nat, l.getD i 0 = (m : Int) := ⟨(l.getD i 0).toNat, by omega⟩
    have hgs := grp_succ hi
    have hasc : Asc (lle l) (ordL l) := isort_asc (lle_ord l) _
    rw [hm] at hx0 hx1 hi0 hgs
    obtain ⟨c, hc⟩ : ∃ c, (codesH l)[i]? = some c := ⟨_, List.getElem?_eq_getElem (by omega)⟩
    have hcm : cur ≤ m := by
      have := j9 i (by rw [drop_cons hi]; exact List.mem_cons_self)
      rw [hm] at this; omega
    have hnext : ∀ y ∈ (ordL l).drop (k + 1), ((m : Nat) : Int) ≤ l.getD y 0 := fun y hy => by
      have hp : Asc (lle l) ((ordL l).drop k) := List.Pairwise.sublist (List.drop_sublist _ _) hasc
      rw [drop_cons hi] at hp
      have := (List.pairwise_cons.1 hp).1 y hy
      rw [lle, decide_eq_true_eq, hm] at this; exact this
    have hgl : (grp l k cur).length ≤ 1024 := by
      have := List.length_filter_le (fun i => decide (l.getD i 0 = (cur : Int))) ((ordL l).take k)
      rw [List.length_take] at this
      rw [grp]; omega
    by_cases hmc : m = cur
    · subst hmc
      have hne := j8 (by omega)
      have hg0 : 0 < (grp l k m).length := List.length_pos_iff.2 hne
      have hget : ((ds.map PV.d).set (16 + m) (.ref (0, 9000)))[0 + 16 + ((m : Nat) : Int).toNat]? = some (PV.ref (0, 9000)) := by
        rw [show 0 + 16 + ((m : Nat) : Int).toNat = 16 + m by omega, List.getElem?_set, if_pos rfl, if_pos (by simp; omega)]
      have hfree : ∀ z, z ≠ 9000 → PV.saysL (0, z) ((ds.map PV.d).set (16 + m) (.ref (0, 9000))) = false := fun z hz => saysL_set (by simp [PV.says]; omega) _ _ (saysL_data _ _)
      repeat' (first | (refine k_op1 ?_; (first | refine o_sv rfl (by decide) ?_ | (refine k_load ?_; (first | refine o_val (v_load (b := .box ((ds.map .d).set (16 + m) (.ref (0, 9000)))) rfl hget rfl rfl) rfl (bk1 rfl) (by decide) ?_ | refine o_val (v_loade rfl rfl rfl) rfl rfl (by decide) ?_)) | (refine k_field ?_; (refine o_val (v_field rfl rfl) rfl rfl (by decide) ?_)) | (refine k_index ?_; (first | refine o_val (v_index rfl (by omega) (idx hi) rfl) rfl rfl (by decide) ?_ | refine o_val (v_index rfl (by omega) (idx hx0) rfl) rfl rfl (by decide) ?_ | refine o_val (v_aindex rfl (by omega) (by omega) rfl) rfl rfl (by decide) ?_)) | (refine k_bin ?_; (refine o_val (v_add (wi64 (by omega) (by omega))) rfl rfl (by decide) ?_)) | (refine k_blt ?_; (refine o_val (v_lenrm rfl) rfl rfl (by decide) ?_)) | (refine k_store ?_; (first | refine o_store0 rfl rfl rfl rfl rfl (by simp [j3]; omega) ?_ | refine o_store0 rfl rfl rfl rfl rfl (by simp only [decide_eq_true_eq]; rw [splice1 _ _ _ (by simp [j3]; omega)]; simp [j3]) ?_)))) | (refine k_ops ?_; (first | refine o_go (by first | exact .inl rfl | exact .inr ⟨_, _, _, rfl, rfl, rfl⟩) ?_ | refine o_nil ?_)) | (refine k_run ?_; (first | refine r_seq ?_ | refine r_region ?_ | refine r_skip ?_ | refine r_block ?_ | refine r_tr ?_ | refine r_inBlock ?_ | refine r_if rfl (fun _ => ?_) (fun _ => ?_) | refine r_exit rfl ?_)) | (refine k_tr ?_; (first | refine t_sv rfl (by first | exact rfl | exact ⟨_, rfl, rfl, rfl⟩) (by decide) ?_ | (refine kt_load ?_; (refine t_val (v_load (b := .box ((ds.map .d).set (16 + m) (.ref (0, 9000)))) rfl hget rfl rfl) (by first | exact rfl | exact ⟨_, rfl, rfl, rfl⟩) rfl (bk1 rfl) (by decide) ?_)) | (refine kt_field ?_; (refine t_val (v_field rfl rfl) (by first | exact rfl | exact ⟨_, rfl, rfl, rfl⟩) rfl rfl (by decide) ?_)) | (refine kt_index ?_; (refine t_val (v_aindex rfl (by omega) (by omega) rfl) (by first | exact rfl | exact ⟨_, rfl, rfl, rfl⟩) rfl rfl (by decide) ?_)) | (refine kt_blt ?_; (refine t_app1 (g := fun i : Nat => [Dint (i : Nat)]) (by first | exact rfl | exact ⟨_, rfl, rfl, rfl⟩) rfl rfl i rfl rfl rfl rfl rfl rfl (by simp [freeHp, freeTm, Blk.says, hfree 50 (by decide), PV.says, PV.lift]) (by decide) (by omega) ?_)) | (refine kt_lit ?_; (refine t_lit (by first | exact rfl | exact ⟨_, rfl, rfl, rfl⟩) rfl rfl rfl rfl rfl rfl rfl rfl (by decide) ?_)) | refine t_tailB 22 (fs := [50]) mix (by kernel_rfl) (by kernel_rfl) (by simp [freeHp, freeTm, Blk.says, hfree 50 (by decide), PV.says, PV.lift]) ?_)))
      all_goals try (exfalso; omega)
      have he1 : splice (splice ((ds.map PV.d).set (16 + m) (.ref (0, 9000))) (0 + 16 + ((m : Nat) : Int).toNat) [PV.ref (0, 50)]) (0 + 32) [PV.d (Dint (m : Nat))] = ((ds.set 32 (Dint (m : Nat))).map PV.d).set (16 + m) (.ref (0, 50)) := by
        rw [show 0 + 16 + ((m : Nat) : Int).toNat = 16 + m by omega, splice1 _ (16 + m) _ (by simp [j3]; omega), splice1 _ (0 + 32) _ (by simp [j3]), List.set_set, List.map_set, List.set_comm _ _ (by omega)]
      have hgm : grp l (k + 1) m = grp l k m ++ [i] := by rw [hgs, if_pos rfl]
      have hgo : ∀ y, y ≠ m → grp l (k + 1) y = grp l k y := fun y hy => by rw [hgs, if_neg (by omega)]
      refine r_cells 9 rfl he1 ?_
      refine r_ren 50 9000 rfl rfl ?_
      refine r_cells 9 rfl (renL_set 50 9000 (ds.set 32 (Dint (m : Nat))) (16 + m)) ?_
      rw [← hgm]
      refine r_less (ih (k + 1, m, ds.set 32 (Dint (m : Nat))) ⟨by simp only; omega, by simp only; omega, by simp only [List.length_set]; exact j3, fun y hy => ?_, fun y h1 h2 h3 => ?_, by simp only; rw [List.getElem?_set, if_pos rfl, if_pos (by omega)], fun y hy => ?_, fun _ => ?_, hnext⟩ (by simp only; omega)) rfl rfl
      · simp only
        rw [List.getElem?_set, if_neg (by omega), j4 y hy]
        by_cases hym : y = m
        · subst hym
          rw [hgm]
          cases hq : grp l k y with
          | nil => exact absurd hq hne
          | cons a r => rfl
        · rw [hgo y hym]
      · simp only at h3 ⊢
        rw [List.getElem?_set, if_neg (by omega), j5 y h1 h2 h3, hgo y h3]
      · simp only at hy ⊢
        rw [hgo y (by omega)]; exact j7 y hy
      · simp only; rw [hgm]; simp
    · have hlt2 : cur < m := by omega
      have hg0 : grp l k m = [] := j7 m hlt2
      obtain ⟨ds', hds'⟩ : ∃ ds', ds.set (16 + cur) (nats (grp l k cur)) = ds' := ⟨_, rfl⟩
      have hl' : ds'.length = 33 := by rw [← hds', List.length_set]; exact j3
      have hget : (ds'.map PV.d)[0 + 16 + ((m : Nat) : Int).toNat]? = some (PV.d (.lit nilS)) := by
        rw [show 0 + 16 + ((m : Nat) : Int).toNat = 16 + m by omega, List.getElem?_map, ← hds', List.getElem?_set, if_neg (by omega), j5 m (by omega) (by omega) hmc, hg0]; rfl
      have hsp : splice (ds'.map PV.d) (0 + 0 + ((m : Nat) : Int).toNat) [PV.d (Du64 c)] = (ds'.set m (Du64 c)).map PV.d := by
        rw [show 0 + 0 + ((m : Nat) : Int).toNat = m by omega, splice1 _ m _ (by simp [hl']; omega), List.map_set]
      have hget2 : (splice (ds'.map PV.d) (0 + 0 + ((m : Nat) : Int).toNat) [PV.d (Du64 c)])[0 + 16 + ((m : Nat) : Int).toNat]? = some (PV.d (.lit nilS)) := by
        rw [hsp, List.map_set, List.getElem?_set, if_neg (by omega)]; exact hget
      have hfree : ∀ z, PV.saysL (0, z) (splice (ds'.map PV.d) (0 + 0 + ((m : Nat) : Int).toNat) [PV.d (Du64 c)]) = false := fun z => by rw [hsp]; exact saysL_data _ _
      have hfree2 : ∀ z, PV.saysL (0, z) (splice (ds'.map PV.d) m [PV.d (Du64 c)]) = false := fun z => by rw [splice1 _ m _ (by simp [hl']; omega), ← List.map_set]; exact saysL_data _ _
      refine r_freeze 9000 rfl ?_
      refine r_cells 9 rfl (frzL_set (0, 9000) (nats (grp l k cur)) ds (16 + cur)) ?_
      rw [hds']
      refine r_less (tm' := [(0, .d (ints l)), (3, .ptr (0, 9) 0), (4, .d (u64s (codesH l))), (13, .d (nats (ordL l))), (14, I .i64 (ordL l).length), (15, I .i64 (k : Nat))]) (hp' := [(9, .box (ds'.map .d))]) ?_ rfl rfl
      repeat' (first | (refine k_op1 ?_; (first | refine o_sv rfl (by decide) ?_ | (refine k_load ?_; (first | refine o_val (v_load (b := .box (ds'.map .d)) rfl hget rfl rfl) rfl (bk1 rfl) (by decide) ?_ | refine o_val (v_loade rfl rfl rfl) rfl rfl (by decide) ?_)) | (refine k_field ?_; (refine o_val (v_field rfl rfl) rfl rfl (by decide) ?_)) | (refine k_index ?_; (first | refine o_val (v_index rfl (by omega) (idx hi) rfl) rfl rfl (by decide) ?_ | refine o_val (v_index rfl (by omega) (idx hx0) rfl) rfl rfl (by decide) ?_ | refine o_val (v_aindex rfl (by omega) (by omega) rfl) rfl rfl (by decide) ?_)) | (refine k_bin ?_; (refine o_val (v_add (wi64 (by omega) (by omega))) rfl rfl (by decide) ?_)) | (refine k_blt ?_; (refine o_val (v_lenn rfl) rfl rfl (by decide) ?_)) | (refine k_store ?_; (first | refine o_store0 (cs := ds'.map .d) rfl rfl rfl rfl rfl (by simp [hl']; omega) ?_ | refine o_store0 (cs := splice (ds'.map PV.d) (0 + 0 + ((m : Nat) : Int).toNat) [PV.d (Du64 c)]) rfl rfl rfl rfl rfl (by rw [hsp]; simp [hl']; omega) ?_ | refine o_store0 rfl rfl rfl rfl rfl (by rw [hsp]; simp only [decide_eq_true_eq]; rw [splice1 _ _ _ (by simp [hl']; omega)]; simp [hl']) ?_)))) | (refine k_ops ?_; (first | refine o_go (by first | exact .inl rfl | exact .inr ⟨_, _, _, rfl, rfl, rfl⟩) ?_ | refine o_nil ?_)) | (refine k_run ?_; (first | refine r_seq ?_ | refine r_region ?_ | refine r_true rfl ?_ | refine r_skip ?_ | refine r_block ?_ | refine r_tr ?_ | refine r_inBlock ?_ | refine r_if rfl (fun _ => ?_) (fun _ => ?_) | refine r_exit rfl ?_)) | (refine k_tr ?_; (first | refine t_sv rfl (by first | exact rfl | exact ⟨_, rfl, rfl, rfl⟩) (by decide) ?_ | (refine kt_load ?_; (first | refine t_val (v_load (b := .box (splice (ds'.map PV.d) (0 + 0 + ((m : Nat) : Int).toNat) [PV.d (Du64 c)])) rfl hget2 rfl rfl) (by first | exact rfl | exact ⟨_, rfl, rfl, rfl⟩) rfl (bk1 rfl) (by decide) ?_ | refine t_val (v_loade rfl rfl rfl) (by first | exact rfl | exact ⟨_, rfl, rfl, rfl⟩) rfl rfl (by decide) ?_)) | (refine kt_field ?_; (refine t_val (v_field rfl rfl) (by first | exact rfl | exact ⟨_, rfl, rfl, rfl⟩) rfl rfl (by decide) ?_)) | (refine kt_index ?_; (first | refine t_val (v_index rfl (by omega) (idx hc) rfl) (by first | exact rfl | exact ⟨_, rfl, rfl, rfl⟩) rfl rfl (by decide) ?_ | refine t_val (v_aindex rfl (by omega) (by omega) rfl) (by first | exact rfl | exact ⟨_, rfl, rfl, rfl⟩) rfl rfl (by decide) ?_)) | (refine kt_blt ?_; (refine t_appn (r := [i]) (g := fun i : Nat => [Dint (i : Nat)]) (by first | exact rfl | exact ⟨_, rfl, rfl, rfl⟩) rfl rfl rfl (fun _ => rfl) rfl (by simp [freeHp, freeTm, Blk.says, hfree 50, hfree2 50, PV.says, PV.lift, saysL_data]) (by decide) (by simp) ?_)) | (refine kt_lit ?_; (refine t_lit (by first | exact rfl | exact ⟨_, rfl, rfl, rfl⟩) rfl rfl rfl rfl rfl rfl rfl rfl (by decide) ?_)) | refine t_tailB 22 (fs := [50]) mix (by kernel_rfl) (by kernel_rfl) (by simp [freeHp, freeTm, Blk.says, hfree 50, hfree2 50, PV.says, PV.lift, saysL_data]) ?_ | refine t_tailB 39 (fs := []) mix (by kernel_rfl) (by kernel_rfl) rfl ?_)))
      all_goals try (exfalso; omega)
      have he1 : splice (splice (splice (ds'.map PV.d) (0 + 0 + ((m : Nat) : Int).toNat) [PV.d (Du64 c)]) (0 + 16 + ((m : Nat) : Int).toNat) [PV.ref (0, 50)]) (0 + 32) [PV.d (Dint (m : Nat))] = (((ds'.set m (Du64 c)).set 32 (Dint (m : Nat))).map PV.d).set (16 + m) (.ref (0, 50)) := by
        rw [hsp, show 0 + 16 + ((m : Nat) : Int).toNat = 16 + m by omega, splice1 _ (16 + m) _ (by simp [hl']; omega), splice1 _ (0 + 32) _ (by simp [hl']), List.map_set (i := 32), List.set_comm _ _ (by omega)]
      have hgm : grp l (k + 1) m = [i] := by rw [hgs, if_pos rfl, hg0]; rfl
      have hgo : ∀ y, y ≠ m → grp l (k + 1) y = grp l k y := fun y hy => by rw [hgs, if_neg (by omega)]
      have hci : (codesH l).getD i 0 = c := getD_some hc
      refine r_cells 9 rfl he1 ?_
      refine r_ren 50 9000 rfl rfl ?_
      refine r_cells 9 rfl (renL_set 50 9000 ((ds'.set m (Du64 c)).set 32 (Dint (m : Nat))) (16 + m)) ?_
      have hnl : ∀ y, y < 16 → (ds'.set m (Du64 c))[y]? = if y = m then some (Du64 c) else ds[y]? := fun y hy => by
        rw [List.getElem?_set]
        by_cases h : y = m
        · rw [if_pos h.symm, if_pos h, if_pos (by omega)]
        · rw [if_neg (fun e => h e.symm), if_neg h, ← hds', List.getElem?_set, if_neg (by omega)]
      rw [← hgm]
      refine r_less (ih (k + 1, m, (ds'.set m (Du64 c)).set 32 (Dint (m : Nat))) ⟨by simp only; omega, by simp only; omega, by simp only [List.length_set]; exact hl', fun y hy => ?_, fun y h1 h2 h3 => ?_, by simp only; rw [List.getElem?_set, if_pos rfl, if_pos (by rw [List.length_set]; omega)], fun y hy => ?_, fun _ => ?_, hnext⟩ (by simp only; omega)) rfl rfl
      · simp only
        rw [List.getElem?_set, if_neg (by omega), hnl y hy]
        by_cases hym : y = m
        · rw [if_pos hym]; subst hym; rw [hgm]; simp only [fstC]; rw [hci]
        · rw [if_neg hym, j4 y hy, hgo y hym]
      · simp only at h3 ⊢
        rw [List.getElem?_set, if_neg (by omega), List.getElem?_set, if_neg (by omega), ← hds', List.getElem?_set, hgo y h3]
        by_cases hyc : y = cur
        · subst hyc
          have := j8 (by omega)
          rw [if_pos rfl, if_pos (by omega), grpD, if_neg this]
        · rw [if_neg (by omega)]; exact j5 y h1 h2 hyc
      · simp only at hy ⊢
        rw [hgo y (by omega)]; exact j7 y (by omega)
      · simp only; rw [hgm]; simp
  · obtain rfl : k = (ordL l).length := by omega
    refine r_freeze 9000 rfl ?_
    refine r_cells 9 rfl (frzL_set (0, 9000) (nats (grp l (ordL l).length cur)) ds (16 + cur)) ?_
    repeat' (first | (refine k_op1 ?_; (refine o_sv rfl (by decide) ?_)) | (refine k_ops ?_; (first | refine o_go (by first | exact .inl rfl | exact .inr ⟨_, _, _, rfl, rfl, rfl⟩) ?_ | refine o_nil ?_)) | (refine k_run ?_; (first | refine r_seq ?_ | refine r_region ?_ | refine r_skip ?_ | refine r_block ?_ | refine r_if rfl (fun _ => ?_) (fun _ => ?_) | refine r_exit rfl ?_)))
    all_goals try (exfalso; omega)
    refine r_ret Try.func37 _ (res_new (qs := (ds.set (16 + cur) (nats (grp l (ordL l).length cur))).map .d) rfl rfl rfl ?_) ⟨⟨((ordL l).length, cur, ds), rfl, ⟨j1, j2, j3, j4, j5, j6, j7, j8, j9⟩, rfl⟩, rfl⟩
    have hlift : ∀ es : List D, PV.liftL 1 (es.map PV.d) = es.map PV.d := fun es => by
      induction es with
      | nil => rfl
      | cons e es ih => rw [List.map_cons, PV.liftL, ih]; rfl
    rw [Blk.lift, hlift]
end Go.Proofs.Ytlgdilkmcfpjjaa
namespace Go.Proofs.Ytlgdilkmcfpjjaa
open Go.Ab Go.Srt
set_option maxHeartbeats 20000000
set_option linter.unusedVariables false
set_option linter.unusedSimpArgs false
attribute [local irreducible] Run Ops Op1 Does Val Tr PureF Eff1 NF Rel EffV

/-- the present symbols of a length, in order -/
def grpA (l : List Int) (m : Nat) : List Nat := grp l (ordL l).length m
/-- what a table's cells say -/
def tabOK (l : List Int) (es : List D) (lg : Nat) : Prop :=
  es.length = 33 ∧ lg ≤ 15 ∧ (∀ m, m < 16 → es[m]? = some (Du64 (fstC l (grpA l m)))) ∧ (∀ m, 1 ≤ m → m < 16 → es[16 + m]? = some (grpD (grpA l m))) ∧ es[32]? = some (Dint (lg : Nat)) ∧ ∀ m, lg < m → grpA l m = []
theorem tab_of {l : List Int} {q : Nat × Nat × List D} (hk : q.1 = (ordL l).length) (h : tbJ l q) : tabOK l (q.2.2.set (16 + q.2.1) (nats (grp l q.1 q.2.1))) q.2.1 := by
  obtain ⟨k, cur, ds⟩ := q
  obtain ⟨j1, j2, j3, j4, j5, j6, j7, j8, j9⟩ := h
  simp only at hk j1 j2 j3 j4 j5 j6 j7 j8 j9 ⊢
  subst hk
  refine ⟨by rw [List.length_set]; exact j3, j2, fun m hm => ?_, fun m h1 h2 => ?_, ?_, j7⟩
  · rw [List.getElem?_set, if_neg (by omega)]; exact j4 m hm
  · rw [List.getElem?_set]
    by_cases hmc : m = cur
    · subst hmc
      rw [if_pos rfl, if_pos (by omega), grpD, grpA, if_neg (j8 h1)]
    · rw [if_neg (by omega)]; exact j5 m h1 h2 hmc
  · rw [List.getElem?_set, if_neg (by omega)]; exact j6
/-- does a code of length k begin with the n bits of v -/
def begK (l : List Int) (v : Int) (n k : Nat) : Bool :=
  decide (0 < (grpA l k).length) && decide (v ≤ shrV .u64 (IntKind.u64.wrap (IntKind.u64.wrap (fstC l (grpA l k) + ((grpA l k).length : Nat)) - 1)) ((k - n : Nat) : Int)) && decide (shrV .u64 (fstC l (grpA l k)) ((k - n : Nat) : Int) ≤ v)
end Go.Proofs.Ytlgdilkmcfpjjaa
namespace Go.Proofs.Ytlgdilkmcfpjjaa
open Go.Ab Go.Srt
set_option maxHeartbeats 20000000
set_option linter.unusedVariables false
set_option linter.unusedSimpArgs false
attribute [local irreducible] Run Ops Op1 Does Val Tr PureF Eff1 NF Rel EffV

def begF (l : List Int) (lg : Nat) (v : Int) (n : Nat) : Bool := (List.range (lg + 1)).any fun k => decide (n ≤ k) && begK l v n k
theorem begF_true {l : List Int} {lg : Nat} {v : Int} {n k : Nat} (h1 : n ≤ k) (h2 : k ≤ lg) (h3 : begK l v n k = true) : begF l lg v n = true := by
  rw [begF, List.any_eq_true]
  exact ⟨k, List.mem_range.2 (by omega), by rw [h3]; simp [h1]⟩
theorem begF_false {l : List Int} {lg : Nat} {v : Int} {n : Nat} (h : ∀ k, n ≤ k → k ≤ lg → begK l v n k = false) : begF l lg v n = false := by
  rw [begF, List.any_eq_false]
  intro k hk
  rw [List.mem_range] at hk
  by_cases hn : n ≤ k
  · rw [h k hn (by omega)]; simp
  · simp [hn]
theorem at_data (m : Nm) (es : List D) : atF m (.box (es.map .d)) = .box (es.map .d) := by
  obtain ⟨d, s⟩ := m
  cases d with
  | zero => rfl
  | succ d => simp [atF, Blk.lift, liftL_data]
theorem begins_s (l : List Int) (es : List D) (lg : Nat) (h : tabOK l es lg) (v : Int) (n j : Nat) (hn : 1 ≤ n) (hn2 : n ≤ 100) (hgl : ∀ m, (grpA l m).length ≤ 1024) : Eff1 Try.prog 50 [.ptr (j, 600) 0, I .u64 v, I .i64 (n : Nat)] [((j, 600), .box (es.map .d))] [] (B (begF l lg v n)) := by
  refine eff_of fun H hH => ?_
  have hH0 := hH ((j, 600), .box (es.map .d)) (by simp)
  refine spec_of Try.func50 (by kernel_rfl) rfl (by simp) ?_
  dsimp only [Try.f50]
  obtain ⟨t1, t2, t3, t4, t5, t6⟩ := h
  have hg32 : (es.map PV.d)[0 + 32]? = some (PV.d (Dint (lg : Nat))) := by rw [List.getElem?_map, t5]; rfl
  repeat' (first | (refine k_op1 ?_; (refine o_sv rfl (by decide) ?_)) | (refine k_ops ?_; (first | refine o_go (by first | exact .inl rfl | exact .inr ⟨_, _, _, rfl, rfl, rfl⟩) ?_ | refine o_nil ?_)) | (refine k_run ?_; (first | refine r_seq ?_ | refine r_region ?_ | refine r_block ?_)))
  refine r_loop ?_
  refine r_less (r_inv (fun q : Nat => ⟨59, [(0, .ptr (j + 1, 600) 0), (1, I .u64 v), (2, I .i64 (n : Nat)), (7, I .i64 (q : Nat))], [], H⟩) (fun q => n ≤ q ∧ q ≤ 200 ∧ ∀ k, n ≤ k → k < q → begK l v n k = false) (fun q => lg + 1 - q) ?_ n ⟨by omega, by omega, fun k h1 h2 => by omega⟩) rfl rfl
  intro q ⟨hq, hq2, hno⟩ ih
  by_cases hlt : q ≤ lg
  · have hga : (es.map PV.d)[0 + 16 + ((q : Nat) : Int).toNat]? = some (PV.d (grpD (grpA l q))) := by
      rw [show 0 + 16 + ((q : Nat) : Int).toNat = 16 + q by omega, List.getElem?_map, t4 q (by omega) (by omega)]; rfl
    have hgf : (es.map PV.d)[0 + 0 + ((q : Nat) : Int).toNat]? = some (PV.d (Du64 (fstC l (grpA l q)))) := by
      rw [show 0 + 0 + ((q : Nat) : Int).toNat = q by omega, List.getElem?_map, t3 q (by omega)]; rfl
    have hgq := hgl q
    by_cases hz : grpA l q = []
    · rw [hz, grpD, if_pos rfl] at hga
      have hb : begK l v n q = false := by rw [begK, hz]; simp
      repeat' (first | (refine k_op1 ?_; (first | refine o_sv rfl (by decide) ?_ | (refine k_load ?_; (first | refine o_val (v_load (b := .box (es.map .d)) (at_data _ _) hg32 rfl rfl) rfl (bk1 hH0) (by decide) ?_ | refine o_val (v_load (b := .box (es.map .d)) (at_data _ _) hga rfl rfl) rfl (bk1 hH0) (by decide) ?_)) | (refine k_field ?_; (refine o_val (v_field rfl rfl) rfl rfl (by decide) ?_)) | (refine k_index ?_; (refine o_val (v_aindex rfl (by omega) (by omega) rfl) rfl rfl (by decide) ?_)) | (refine k_bin ?_; (refine o_val (v_add (wi64 (by omega) (by omega))) rfl rfl (by decide) ?_)) | (refine k_blt ?_; (refine o_val (v_lenn rfl) rfl rfl (by decide) ?_)))) | (refine k_ops ?_; (first | refine o_go (by first | exact .inl rfl | exact .inr ⟨_, _, _, rfl, rfl, rfl⟩) ?_ | refine o_nil ?_ | refine o_no rfl rfl (by decide) ?_)) | (refine k_run ?_; (first | refine r_seq ?_ | refine r_region ?_ | refine r_false rfl ?_ | refine r_skip ?_ | refine r_block ?_ | refine r_inBlock ?_ | refine r_if rfl (fun _ => ?_) (fun _ => ?_) | refine r_exit rfl ?_)))
      all_goals try (exfalso; omega)
      all_goals refine r_less (ih (q + 1) ⟨by omega, by omega, fun k h1 h2 => ?_⟩ (by omega)) rfl rfl
      all_goals exact if hk : k < q then hno k h1 hk else by obtain rfl : k = q := by omega
                                                             exact hb
    · rw [grpD, if_neg hz] at hga
      have hpos : 0 < (grpA l q).length := List.length_pos_iff.2 hz
      obtain ⟨X, hX⟩ : ∃ X, shrV .u64 (IntKind.u64.wrap (IntKind.u64.wrap (fstC l (grpA l q) + ((grpA l q).length : Nat)) - 1)) ((q : Nat) - (n : Nat) : Int) = X := ⟨_, rfl⟩
      obtain ⟨Y, hY⟩ : ∃ Y, shrV .u64 (fstC l (grpA l q)) ((q : Nat) - (n : Nat) : Int) = Y := ⟨_, rfl⟩
      have hb : begK l v n q = (decide (v ≤ X) && decide (Y ≤ v)) := by
        rw [begK, ← hX, ← hY, Int.ofNat_sub hq, decide_eq_true hpos]; simp
      have ht : v ≤ X → Y ≤ v → begK l v n q = true := fun a b => by rw [hb, decide_eq_true a, decide_eq_true b]; rfl
      have hf : ¬ (v ≤ X ∧ Y ≤ v) → begK l v n q = false := fun a => by rw [hb, ← Bool.decide_and, decide_eq_false a]
      subst hX hY
      repeat' (first | (refine k_op1 ?_; (first | refine o_sv rfl (by decide) ?_ | (refine k_load ?_; (first | refine o_val (v_load (b := .box (es.map .d)) (at_data _ _) hg32 rfl rfl) rfl (bk1 hH0) (by decide) ?_ | refine o_val (v_load (b := .box (es.map .d)) (at_data _ _) hga rfl rfl) rfl (bk1 hH0) (by decide) ?_ | refine o_val (v_load (b := .box (es.map .d)) (at_data _ _) hgf rfl rfl) rfl (bk1 hH0) (by decide) ?_)) | (refine k_field ?_; (refine o_val (v_field rfl rfl) rfl rfl (by decide) ?_)) | (refine k_index ?_; (refine o_val (v_aindex rfl (by omega) (by omega) rfl) rfl rfl (by decide) ?_)) | (refine k_bin ?_; (first | refine o_val (v_addw (k := .u64)) rfl rfl (by decide) ?_ | refine o_val (v_subw (k := .u64)) rfl rfl (by decide) ?_ | refine o_val (v_shr (by omega)) rfl rfl (by decide) ?_ | refine o_val (v_add (wi64 (by omega) (by omega))) rfl rfl (by decide) ?_ | refine o_val (v_sub (wi64 (by omega) (by omega))) rfl rfl (by decide) ?_)) | (refine k_blt ?_; (refine o_val (v_lenm (q := grpA l q) (g := fun i : Nat => [Dint (i : Nat)]) rfl) rfl rfl (by decide) ?_)) | (refine k_conv ?_; (refine o_val (v_conv rfl rfl (wu64 (by omega) (by omega))) rfl rfl (by decide) ?_)))) | (refine k_ops ?_; (first | refine o_go (by first | exact .inl rfl | exact .inr ⟨_, _, _, rfl, rfl, rfl⟩) ?_ | refine o_nil ?_ | refine o_no rfl rfl (by decide) ?_ | refine o_casep rfl rfl (fun _ => ?_) (fun _ => ?_))) | (refine k_run ?_; (first | refine r_seq ?_ | refine r_region ?_ | refine r_false rfl ?_ | refine r_skip ?_ | refine r_block ?_ | refine r_inBlock ?_ | refine r_if rfl (fun _ => ?_) (fun _ => ?_) | refine r_exit rfl ?_)))
      all_goals try (exfalso; omega)
      all_goals first
        | (refine r_ret Try.func50 _ (res_one rfl rfl) ⟨?_, rfl⟩
           rw [begF_true hq hlt (ht (by omega) (by omega))])
        | (refine r_less (ih (q + 1) ⟨by omega, by omega, fun k h1 h2 => ?_⟩ (by omega)) rfl rfl
           exact if hk : k < q then hno k h1 hk else by obtain rfl : k = q := by omega
                                                        exact hf fun hh => by omega)
  · repeat' (first | (refine k_op1 ?_; (first | refine o_sv rfl (by decide) ?_ | (refine k_load ?_; (refine o_val (v_load (b := .box (es.map .d)) (at_data _ _) hg32 rfl rfl) rfl (bk1 hH0) (by decide) ?_)) | (refine k_field ?_; (refine o_val (v_field rfl rfl) rfl rfl (by decide) ?_)))) | (refine k_ops ?_; (first | refine o_go (by first | exact .inl rfl | exact .inr ⟨_, _, _, rfl, rfl, rfl⟩) ?_ | refine o_nil ?_)) | (refine k_run ?_; (first | refine r_seq ?_ | refine r_region ?_ | refine r_skip ?_ | refine r_block ?_ | refine r_if rfl (fun _ => ?_) (fun _ => ?_) | refine r_exit rfl ?_)))
    all_goals try (exfalso; omega)
    refine r_ret Try.func50 _ (res_one rfl rfl) ⟨?_, rfl⟩
    rw [begF_false fun k h1 h2 => hno k h1 (by omega)]
end Go.Proofs.Ytlgdilkmcfpjjaa
namespace Go.Proofs.Ytlgdilkmcfpjjaa
open Go.Ab Go.Srt
set_option maxHeartbeats 20000000
set_option linter.unusedVariables false
set_option linter.unusedSimpArgs false
attribute [local irreducible] Run Ops Op1 Does Val Tr PureF Eff1 NF Rel EffV

/-- a symbol read: its error, the symbol, the bits that it took -/
def symR (l : List Int) (lg : Nat) (b : List Int) (N : Nat) : Nat → Nat → Nat → Int → Nat × Int × Int
  | 0, pos, _, _ => (pos, 0, 9)
  | fuel + 1, pos, n, v =>
    if N ≤ pos then (pos, 0, 10) else
    let w := orV .u64 (shlV .u64 v 1) (bitv b pos)
    if begF l lg w n = false then (pos + 1, 0, 9) else
    if fstC l (grpA l n) ≤ w ∧ IntKind.u64.wrap (w - fstC l (grpA l n)) < ((grpA l n).length : Nat) then (pos + 1, (((grpA l n).getD (IntKind.u64.wrap (w - fstC l (grpA l n))).toNat 0 : Nat) : Int), 0)
    else symR l lg b N fuel (pos + 1) (n + 1) w
theorem getD_nat {q : List Nat} {i : Nat} (h : i < q.length) : q[i]? = some (q.getD i 0) := by rw [List.getElem?_eq_getElem h, List.getD, List.getElem?_eq_getElem h]; rfl
theorem begF_big {l : List Int} {lg : Nat} {v : Int} {n : Nat} (h : lg < n) : begF l lg v n = false := begF_false fun k h1 h2 => by omega
theorem symbol_s (l : List Int) (es : List D) (lg : Nat) (h : tabOK l es lg) (b : List Int) (N p0 : Nat) (hN : N ≤ 8 * b.length) (hb : ∀ x ∈ b, 0 ≤ x ∧ x < 256) (hs : N ≤ 1000000) (hp0 : p0 ≤ N) (hgl : ∀ m, (grpA l m).length ≤ 1024) : Eff1 Try.prog 38 [.ptr (0, 600) 0, .ptr (0, 500) 0] [((0, 600), .box (es.map .d)), ((0, 500), rbox b N p0)] [((0, 500), rbox b N (symR l lg b N 20 p0 1 0).1)] (.tup [I .i64 (symR l lg b N 20 p0 1 0).2.1, I .i64 (symR l lg b N 20 p0 1 0).2.2]) := by
  refine eff_of fun H hH => ?_
  have hH0 := hH ((0, 600), .box (es.map .d)) (by simp)
  have hH1 := hH ((0, 500), rbox b N p0) (by simp)
  refine spec_of Try.func38 (by kernel_rfl) rfl (by simp) ?_
  dsimp only [Try.f38]
  have hT : upd H (0, 500) .gone 0 600 = some (.box (es.map .d)) := upd_ne hH0 (by simp)
  have ht := h
  obtain ⟨t1, t2, t3, t4, t5, t6⟩ := h
  refine r_take 500 0 500 hH1 rfl rfl ?_
  repeat' (first | (refine k_op1 ?_; (refine o_sv rfl (by decide) ?_)) | (refine k_ops ?_; (first | refine o_go (by first | exact .inl rfl | exact .inr ⟨_, _, _, rfl, rfl, rfl⟩) ?_ | refine o_nil ?_)) | (refine k_run ?_; (first | refine r_seq ?_ | refine r_region ?_ | refine r_block ?_)))
  refine r_loop ?_
  refine r_less (r_inv (fun q : Nat × Nat × Int => ⟨71, [(100500, .al (0, 500) (1, 500)), (0, .ptr (1, 600) 0), (1, .ptr (0, 500) 0), (6, I .u64 q.2.2), (7, I .i64 (q.2.1 : Nat))], [(500, rbox b N q.1)], upd H (0, 500) .gone⟩) (fun q => 1 ≤ q.2.1 ∧ q.2.1 ≤ 16 ∧ q.1 ≤ N ∧ symR l lg b N (21 - q.2.1) q.1 q.2.1 q.2.2 = symR l lg b N 20 p0 1 0) (fun q => 20 - q.2.1) ?_ (p0, 1, 0) ⟨by simp, by simp, hp0, rfl⟩) rfl rfl
  intro ⟨pos, n, v⟩ ⟨h1, h2, h3, h4⟩ ih
  simp only at h1 h2 h3 h4 ih ⊢
  rw [show 21 - n = (20 - n) + 1 by omega, symR] at h4
  by_cases hend : N ≤ pos
  · rw [if_pos hend] at h4
    have hB : Eff1 Try.prog 49 [.ptr (0, 500) 0, I .i64 1] [((0, 500), rbox b N pos)] [] (.tup [I .u64 0, I .i64 10]) := bits0_s b N pos hend (by omega)
    repeat' (first | (refine k_op1 ?_; (first | refine o_sv rfl (by decide) ?_ | (refine k_call ?_; (refine o_effk hB rfl (bk1 rfl) (by decide) ?_)))) | (refine k_ops ?_; (first | refine o_go (by first | exact .inl rfl | exact .inr ⟨_, _, _, rfl, rfl, rfl⟩) ?_ | refine o_nil ?_)) | (refine k_run ?_; (first | refine r_seq ?_ | refine r_region ?_ | refine r_true rfl ?_ | refine r_block ?_)))
    all_goals try (exfalso; omega)
    refine r_give 500 0 500 (raw := rbox b N pos) rfl rfl rfl rfl rfl ?_
    rw [← h4]
    exact r_ret Try.func38 _ (res_two rfl rfl rfl) ⟨rfl, (upd_upd _ _ _ _).trans rfl⟩
  rw [if_neg hend] at h4
  simp only at h4
  obtain ⟨w, hw⟩ : ∃ w, orV .u64 (shlV .u64 v 1) (bitv b pos) = w := ⟨_, rfl⟩
  have hB := bits1_s b N pos (by omega) hN hb hs
  have hG := begins_s l es lg ht w n 1 h1 (by omega) hgl
  rw [hw] at h4
  cases hbg : begF l lg w n with
  | false =>
    rw [if_pos hbg] at h4
    rw [hbg] at hG
    rw [← hw] at hG
    repeat' (first | (refine k_op1 ?_; (first | refine o_sv rfl (by decide) ?_ | (refine k_bin ?_; (first | refine o_val (v_shl (by omega)) rfl rfl (by decide) ?_ | refine o_val v_bor rfl rfl (by decide) ?_)) | (refine k_call ?_; (first | refine o_eff1 hB rfl rfl (by decide) ?_ | refine o_effk hG rfl (bk1 hT) (by decide) ?_)))) | (refine k_ops ?_; (first | refine o_go (by first | exact .inl rfl | exact .inr ⟨_, _, _, rfl, rfl, rfl⟩) ?_ | refine o_nil ?_)) | (refine k_run ?_; (first | refine r_seq ?_ | refine r_region ?_ | refine r_true rfl ?_ | refine r_false rfl ?_ | refine r_skip ?_ | refine r_block ?_)))
    all_goals try (exfalso; omega)
    refine r_give 500 0 500 (raw := rbox b N (pos + 1)) rfl rfl rfl rfl rfl ?_
    rw [← h4]
    exact r_ret Try.func38 _ (res_two rfl rfl rfl) ⟨rfl, (upd_upd _ _ _ _).trans rfl⟩
  | true =>
    rw [if_neg (by rw [hbg]; simp)] at h4
    subst hw
    rw [hbg] at hG
    have hnl : n ≤ lg := Nat.le_of_not_lt fun hh => by rw [begF_big hh] at hbg; cases hbg
    have hga : (es.map PV.d)[0 + 16 + ((n : Nat) : Int).toNat]? = some (PV.d (grpD (grpA l n))) := by
      rw [show 0 + 16 + ((n : Nat) : Int).toNat = 16 + n by omega, List.getElem?_map, t4 n (by omega) (by omega)]; rfl
    have hgf : (es.map PV.d)[0 + 0 + ((n : Nat) : Int).toNat]? = some (PV.d (Du64 (fstC l (grpA l n)))) := by
      rw [show 0 + 0 + ((n : Nat) : Int).toNat = n by omega, List.getElem?_map, t3 n (by omega)]; rfl
    have hgn := hgl n
    obtain ⟨f, hf⟩ : ∃ f, fstC l (grpA l n) = f := ⟨_, rfl⟩
    rw [hf] at hgf h4
    have hw0 : 0 ≤ IntKind.u64.wrap (orV .u64 (shlV .u64 v 1) (bitv b pos) - f) := by simp [IntKind.wrap, IntKind.bits, IntKind.signed]; omega
    have hnext : ¬ (f ≤ orV .u64 (shlV .u64 v 1) (bitv b pos) ∧ IntKind.u64.wrap (orV .u64 (shlV .u64 v 1) (bitv b pos) - f) < ((grpA l n).length : Nat)) → symR l lg b N (20 - n) (pos + 1) (n + 1) (orV .u64 (shlV .u64 v 1) (bitv b pos)) = symR l lg b N 20 p0 1 0 := fun hh => by rw [if_neg hh] at h4; exact h4
    by_cases hz : grpA l n = []
    · rw [hz, grpD, if_pos rfl] at hga
      have h0 : (grpA l n).length = 0 := by rw [hz]; rfl
      repeat' (first | (refine k_op1 ?_; (first | refine o_sv rfl (by decide) ?_ | (refine k_bin ?_; (first | refine o_val (v_shl (by omega)) rfl rfl (by decide) ?_ | refine o_val v_bor rfl rfl (by decide) ?_ | refine o_val (v_add (wi64 (by omega) (by omega))) rfl rfl (by decide) ?_)) | (refine k_call ?_; (first | refine o_eff1 hB rfl rfl (by decide) ?_ | refine o_effk hG rfl (bk1 hT) (by decide) ?_)))) | (refine k_ops ?_; (first | refine o_go (by first | exact .inl rfl | exact .inr ⟨_, _, _, rfl, rfl, rfl⟩) ?_ | refine o_nil ?_)) | (refine k_run ?_; (first | refine r_seq ?_ | refine r_region ?_ | refine r_false rfl ?_ | refine r_skip ?_ | refine r_block ?_ | refine r_tr ?_ | refine r_inBlock ?_ | refine r_if rfl (fun _ => ?_) (fun _ => ?_))) | (refine k_tr ?_; (first | (refine kt_end ?_; refine t_end mix (by kernel_rfl) ?_) | refine t_pass rfl rfl (by decide) ?_ | refine t_sv rfl (by first | exact rfl | exact ⟨_, rfl, rfl, rfl⟩) (by decide) ?_ | (refine kt_load ?_; (first | refine t_val (v_load (b := .box (es.map .d)) (at_data _ _) hga rfl rfl) (by first | exact rfl | exact ⟨_, rfl, rfl, rfl⟩) rfl (bk1 hT) (by decide) ?_ | refine t_val (v_load (b := .box (es.map .d)) (at_data _ _) hgf rfl rfl) (by first | exact rfl | exact ⟨_, rfl, rfl, rfl⟩) rfl (bk1 hT) (by decide) ?_)) | (refine kt_field ?_; (refine t_val (v_field rfl rfl) (by first | exact rfl | exact ⟨_, rfl, rfl, rfl⟩) rfl rfl (by decide) ?_)) | (refine kt_index ?_; (refine t_val (v_aindex rfl (by omega) (by omega) rfl) (by first | exact rfl | exact ⟨_, rfl, rfl, rfl⟩) rfl rfl (by decide) ?_)) | (refine kt_bin ?_; (refine t_val (v_subw (k := .u64)) (by first | exact rfl | exact ⟨_, rfl, rfl, rfl⟩) rfl rfl (by decide) ?_)) | (refine kt_blt ?_; (refine t_val (v_lenn rfl) (by first | exact rfl | exact ⟨_, rfl, rfl, rfl⟩) rfl rfl (by decide) ?_)) | (refine kt_conv ?_; (refine t_val (v_conv rfl rfl (wu64 (by omega) (by omega))) (by first | exact rfl | exact ⟨_, rfl, rfl, rfl⟩) rfl rfl (by decide) ?_)) | (refine t_either rfl rfl (fun hg => ?_) (fun hg => ?_) <;> simp only [hg] <;> (try simp only [decide_eq_true_eq, decide_eq_false_iff_not, Bool.not_eq_true', Bool.not_eq_false'] at hg)))))
      all_goals try (exfalso; omega)
      all_goals exact r_less (ih (pos + 1, n + 1, orV .u64 (shlV .u64 v 1) (bitv b pos)) ⟨by simp only; omega, by simp only; omega, by simp only; omega, by simp only; rw [show 21 - (n + 1) = 20 - n by omega]; exact hnext fun hh => by omega⟩ (by simp only; omega)) rfl rfl
    · rw [grpD, if_neg hz] at hga
      repeat' (first | (refine k_op1 ?_; (first | refine o_sv rfl (by decide) ?_ | (refine k_bin ?_; (first | refine o_val (v_shl (by omega)) rfl rfl (by decide) ?_ | refine o_val v_bor rfl rfl (by decide) ?_ | refine o_val (v_add (wi64 (by omega) (by omega))) rfl rfl (by decide) ?_)) | (refine k_call ?_; (first | refine o_eff1 hB rfl rfl (by decide) ?_ | refine o_effk hG rfl (bk1 hT) (by decide) ?_)))) | (refine k_ops ?_; (first | refine o_go (by first | exact .inl rfl | exact .inr ⟨_, _, _, rfl, rfl, rfl⟩) ?_ | refine o_nil ?_)) | (refine k_run ?_; (first | refine r_seq ?_ | refine r_region ?_ | refine r_false rfl ?_ | refine r_skip ?_ | refine r_block ?_ | refine r_tr ?_ | refine r_inBlock ?_ | refine r_if rfl (fun _ => ?_) (fun _ => ?_))) | (refine k_tr ?_; (first | (refine kt_end ?_; refine t_end mix (by kernel_rfl) ?_) | refine t_pass rfl rfl (by decide) ?_ | refine t_sv rfl (by first | exact rfl | exact ⟨_, rfl, rfl, rfl⟩) (by decide) ?_ | (refine kt_load ?_; (first | refine t_val (v_load (b := .box (es.map .d)) (at_data _ _) hga rfl rfl) (by first | exact rfl | exact ⟨_, rfl, rfl, rfl⟩) rfl (bk1 hT) (by decide) ?_ | refine t_val (v_load (b := .box (es.map .d)) (at_data _ _) hgf rfl rfl) (by first | exact rfl | exact ⟨_, rfl, rfl, rfl⟩) rfl (bk1 hT) (by decide) ?_ | refine t_val (v_loade rfl rfl rfl) (by first | exact rfl | exact ⟨_, rfl, rfl, rfl⟩) rfl rfl (by decide) ?_)) | (refine kt_field ?_; (refine t_val (v_field rfl rfl) (by first | exact rfl | exact ⟨_, rfl, rfl, rfl⟩) rfl rfl (by decide) ?_)) | (refine kt_index ?_; (first | refine t_val (v_aindex rfl (by omega) (by omega) rfl) (by first | exact rfl | exact ⟨_, rfl, rfl, rfl⟩) rfl rfl (by decide) ?_ | refine t_val (v_index (ys := (grpA l n).map fun i : Nat => [Dint (i : Nat)]) rfl hw0 (by rw [List.getElem?_map, getD_nat (by omega)]; rfl) rfl) (by first | exact rfl | exact ⟨_, rfl, rfl, rfl⟩) rfl rfl (by decide) ?_)) | (refine kt_bin ?_; (refine t_val (v_subw (k := .u64)) (by first | exact rfl | exact ⟨_, rfl, rfl, rfl⟩) rfl rfl (by decide) ?_)) | (refine kt_blt ?_; (refine t_val (v_lenm (q := grpA l n) (g := fun i : Nat => [Dint (i : Nat)]) rfl) (by first | exact rfl | exact ⟨_, rfl, rfl, rfl⟩) rfl rfl (by decide) ?_)) | (refine kt_conv ?_; (refine t_val (v_conv rfl rfl (wu64 (by omega) (by omega))) (by first | exact rfl | exact ⟨_, rfl, rfl, rfl⟩) rfl rfl (by decide) ?_)) | (refine t_either rfl rfl (fun hg => ?_) (fun hg => ?_) <;> simp only [hg] <;> (try simp only [decide_eq_true_eq, decide_eq_false_iff_not, Bool.not_eq_true', Bool.not_eq_false'] at hg)))))
      all_goals try (exfalso; omega)
      all_goals first
        | exact r_less (ih (pos + 1, n + 1, orV .u64 (shlV .u64 v 1) (bitv b pos)) ⟨by simp only; omega, by simp only; omega, by simp only; omega, by simp only; rw [show 21 - (n + 1) = 20 - n by omega]; exact hnext fun hh => by omega⟩ (by simp only; omega)) rfl rfl
        | (rw [if_pos ⟨by omega, by omega⟩] at h4
           refine r_give 500 0 500 (raw := rbox b N (pos + 1)) rfl rfl rfl rfl rfl ?_
           rw [← h4]
           exact r_ret Try.func38 _ (res_two rfl rfl rfl) ⟨rfl, (upd_upd _ _ _ _).trans rfl⟩)
end Go.Proofs.Ytlgdilkmcfpjjaa
namespace Go.Proofs.Ytlgdilkmcfpjjaa
open Go.Ab Go.Srt
set_option linter.unusedVariables false
set_option linter.unusedSimpArgs false
theorem symR_pos (l : List Int) (lg : Nat) (b : List Int) (N : Nat) : ∀ (fuel pos n : Nat) (v : Int), pos ≤ N → (symR l lg b N fuel pos n v).1 ≤ N
  | 0, pos, n, v, h => h
  | fuel + 1, pos, n, v, h => by
    rw [symR]
    by_cases h1 : N ≤ pos
    · rw [if_pos h1]; exact h
    · rw [if_neg h1]
      simp only
      split
      · simp only; omega
      · split
        · simp only; omega
        · exact symR_pos l lg b N fuel (pos + 1) (n + 1) _ (by omega)
/-- some symbols read -/
def decL (l : List Int) (lg : Nat) (b : List Int) (N : Nat) : Nat → Nat → List Int → List Int × Int × Nat
  | 0, pos, acc => (acc, 0, pos)
  | c + 1, pos, acc => if (symR l lg b N 20 pos 1 0).2.2 ≠ 0 then ([], (symR l lg b N 20 pos 1 0).2.2, pos) else decL l lg b N c (symR l lg b N 20 pos 1 0).1 (acc ++ [(symR l lg b N 20 pos 1 0).2.1])
end Go.Proofs.Ytlgdilkmcfpjjaa
namespace Go.Proofs.Ytlgdilkmcfpjjaa
open Go.Ab Go.Srt
set_option maxHeartbeats 20000000
set_option linter.unusedVariables false
set_option linter.unusedSimpArgs false
attribute [local irreducible] Run Ops Op1 Does Val Tr PureF Eff1 NF Rel EffV

/-- what the program's decoder gives, by its table's longest length -/
def decP (l : List Int) (lg : Nat) (b : List Int) (bits count : Int) : List Int × Int :=
  if validH l = false ∨ count < 0 ∨ 4096 < count then ([], 1) else if bits < 0 ∨ 8 * (b.length : Int) < bits then ([], 1) else
  let r := decL l lg (b.take ((bits.toNat + 7) / 8)) bits.toNat count.toNat 0 []
  if r.2.1 ≠ 0 then ([], r.2.1) else if (r.2.2 : Int) ≠ bits then ([], 9) else (r.1, 0)
theorem decode_bad (l b : List Int) (bits count : Int) (hl : l.length ≤ 9223372036854775807) (hbl : b.length ≤ 100000) (h : validH l = false ∨ count < 0 ∨ 4096 < count) : PureF Try.prog 21 [.d (ints l), .d (bytesL b), I .i64 bits, I .i64 count] (.tup [.d (ints []), I .i64 1]) := by
  refine pure_of fun H => ?_
  refine spec_of Try.func21 (by kernel_rfl) rfl (by simp) ?_
  dsimp only [Try.f21]
  have hc := valid_s l hl
  cases hvl : validH l with
  | false =>
    rw [hvl] at hc
    repeat' (first | (refine k_op1 ?_; (first | refine o_sv rfl (by decide) ?_ | (refine k_call ?_; (refine o_fn hc rfl (by decide) ?_)))) | (refine k_ops ?_; (first | refine o_go (by first | exact .inl rfl | exact .inr ⟨_, _, _, rfl, rfl, rfl⟩) ?_ | refine o_nil ?_ | refine o_no rfl rfl (by decide) ?_)) | (refine k_run ?_; (first | refine r_seq ?_ | refine r_region ?_ | refine r_true rfl ?_)))
    all_goals try (exfalso; omega)
    all_goals refine r_nil 8 rfl ?_
    all_goals exact r_ret Try.func21 _ (res_two rfl rfl rfl) ⟨rfl, rfl⟩
  | true =>
    rw [hvl] at hc h
    have h : count < 0 ∨ 4096 < count := by simpa using h
    repeat' (first | (refine k_op1 ?_; (first | refine o_sv rfl (by decide) ?_ | (refine k_call ?_; (refine o_fn hc rfl (by decide) ?_)))) | (refine k_ops ?_; (first | refine o_go (by first | exact .inl rfl | exact .inr ⟨_, _, _, rfl, rfl, rfl⟩) ?_ | refine o_nil ?_ | refine o_no rfl rfl (by decide) ?_ | refine o_casep rfl rfl (fun _ => ?_) (fun _ => ?_))) | (refine k_run ?_; (first | refine r_seq ?_ | refine r_region ?_ | refine r_true rfl ?_ | refine r_skip ?_ | refine r_if rfl (fun _ => ?_) (fun _ => ?_))))
    all_goals try (exfalso; omega)
    all_goals refine r_nil 8 rfl ?_
    all_goals exact r_ret Try.func21 _ (res_two rfl rfl rfl) ⟨rfl, rfl⟩
theorem decode_bits (l b : List Int) (bits count : Int) (hl : l.length ≤ 9223372036854775807) (hbl : b.length ≤ 100000) (hv : validH l = true) (h0 : 0 ≤ count) (h1 : count ≤ 4096) (h : bits < 0 ∨ 8 * (b.length : Int) < bits) : PureF Try.prog 21 [.d (ints l), .d (bytesL b), I .i64 bits, I .i64 count] (.tup [.d (ints []), I .i64 1]) := by
  refine pure_of fun H => ?_
  refine spec_of Try.func21 (by kernel_rfl) rfl (by simp) ?_
  dsimp only [Try.f21]
  have hc := valid_s l hl
  rw [hv] at hc
  have hr := newr_bad b bits h hbl
  repeat' (first | (refine k_op1 ?_; (first | refine o_sv rfl (by decide) ?_ | (refine k_call ?_; (first | refine o_fn hc rfl (by decide) ?_ | refine o_fn hr rfl (by decide) ?_)))) | (refine k_ops ?_; (first | refine o_go (by first | exact .inl rfl | exact .inr ⟨_, _, _, rfl, rfl, rfl⟩) ?_ | refine o_nil ?_ | refine o_no rfl rfl (by decide) ?_ | refine o_casep rfl rfl (fun _ => ?_) (fun _ => ?_))) | (refine k_run ?_; (first | refine r_seq ?_ | refine r_region ?_ | refine r_true rfl ?_ | refine r_skip ?_ | refine r_if rfl (fun _ => ?_) (fun _ => ?_))))
  all_goals try (exfalso; omega)
  all_goals refine r_nil 8 rfl ?_
  all_goals exact r_ret Try.func21 _ (res_two rfl rfl rfl) ⟨rfl, rfl⟩
end Go.Proofs.Ytlgdilkmcfpjjaa
namespace Go.Proofs.Ytlgdilkmcfpjjaa
open Go.Ab Go.Srt
set_option linter.unusedVariables false
set_option linter.unusedSimpArgs false
theorem begF_15 {l : List Int} {es : List D} {lg : Nat} (h : tabOK l es lg) (v : Int) (n : Nat) : begF l lg v n = begF l 15 v n := by
  obtain ⟨t1, t2, t3, t4, t5, t6⟩ := h
  by_cases hk : ∃ k, n ≤ k ∧ k ≤ lg ∧ begK l v n k = true
  · obtain ⟨k, h1, h2, h3⟩ := hk
    rw [begF_true h1 h2 h3, begF_true h1 (by omega) h3]
  · rw [begF_false fun k h1 h2 => by
      cases hb : begK l v n k with
      | false => rfl
      | true => exact absurd ⟨k, h1, h2, hb⟩ hk, begF_false fun k h1 h2 => by
      by_cases hkl : k ≤ lg
      · cases hb : begK l v n k with
        | false => rfl
        | true => exact absurd ⟨k, h1, hkl, hb⟩ hk
      · rw [begK, t6 k (by omega)]; simp]
theorem symR_15 {l : List Int} {es : List D} {lg : Nat} (h : tabOK l es lg) (b : List Int) (N : Nat) : ∀ (fuel pos n : Nat) (v : Int), symR l lg b N fuel pos n v = symR l 15 b N fuel pos n v
  | 0, pos, n, v => rfl
  | fuel + 1, pos, n, v => by
    rw [symR, symR]
    simp only [begF_15 h, symR_15 h b N fuel]
theorem decL_15 {l : List Int} {es : List D} {lg : Nat} (h : tabOK l es lg) (b : List Int) (N : Nat) : ∀ (c pos : Nat) (acc : List Int), decL l lg b N c pos acc = decL l 15 b N c pos acc
  | 0, _, _ => rfl
  | c + 1, pos, acc => by
    rw [decL, decL]
    simp only [symR_15 h, decL_15 h b N c]
end Go.Proofs.Ytlgdilkmcfpjjaa
namespace Go.Proofs.Ytlgdilkmcfpjjaa
open Go.Ab Go.Srt
set_option maxHeartbeats 20000000
set_option linter.unusedVariables false
set_option linter.unusedSimpArgs false
attribute [local irreducible] Run Ops Op1 Does Val Tr PureF Eff1 NF Rel EffV

theorem grpA_le {l : List Int} (hl : l.length ≤ 1024) (m : Nat) : (grpA l m).length ≤ 1024 := by
  refine Nat.le_trans (List.length_filter_le _ _) ?_
  rw [List.length_take]
  refine Nat.le_trans (Nat.min_le_right _ _) ?_
  rw [ordL, isort_length]
  exact Nat.le_trans (pidx_len l 0) hl
theorem decode_good (l b : List Int) (N c : Nat) (hl : l.length ≤ 9223372036854775807) (hbl : b.length ≤ 100000) (hb : ∀ x ∈ b, 0 ≤ x ∧ x < 256) (hv : validH l = true) (h1 : c ≤ 4096) (hN : N ≤ 8 * b.length) : PureF Try.prog 21 [.d (ints l), .d (bytesL b), I .i64 (N : Nat), I .i64 (c : Nat)] (.tup [.d (ints (decP l 15 b N c).1), I .i64 (decP l 15 b N c).2]) := by
  refine pure_of fun H => ?_
  refine spec_of Try.func21 (by kernel_rfl) rfl (by simp) ?_
  dsimp only [Try.f21]
  obtain ⟨hl1, hr, _⟩ := validH_ok hv
  have hc := valid_s l hl
  rw [hv] at hc
  repeat' (first | (refine k_op1 ?_; (first | refine o_sv rfl (by decide) ?_ | (refine k_call ?_; (first | refine o_fn hc rfl (by decide) ?_ | (refine o_callnT rfl (newr_s b N hN hbl _) (by decide) rfl (fun r H' h => ⟨_, _, h.1, h.2, rfl, rfl, ?_⟩)) | (refine o_calln rfl (tableOf_s l hl1 hr _) (by decide) rfl (fun r H' h => ?_); obtain ⟨⟨q, hq1, hq2, hq3⟩, hq4⟩ := h; refine ⟨_, hq3, hq4, rfl, saysL_data _ _, ?_⟩))))) | (refine k_ops ?_; (first | refine o_go (by first | exact .inl rfl | exact .inr ⟨_, _, _, rfl, rfl, rfl⟩) ?_ | refine o_nil ?_)) | (refine k_run ?_; (first | refine r_seq ?_ | refine r_region ?_ | refine r_false rfl ?_ | refine r_skip ?_ | refine r_block ?_ | refine r_if rfl (fun _ => ?_) (fun _ => ?_))))
  all_goals try (exfalso; omega)
  have ht := tab_of hq1 hq2
  obtain ⟨es, hes⟩ : ∃ es, q.2.2.set (16 + q.2.1) (nats (grp l q.1 q.2.1)) = es := ⟨_, rfl⟩
  obtain ⟨lg, hlg⟩ : ∃ lg, q.2.1 = lg := ⟨_, rfl⟩
  rw [hes] at ht ⊢
  rw [hlg] at ht
  obtain ⟨b', hb'⟩ : ∃ b', b.take ((N + 7) / 8) = b' := ⟨_, rfl⟩
  rw [hb']
  refine r_ren 36 600 rfl (by simp [Blk.says, saysL_data]) ?_
  refine r_ren 30 500 rfl rfl ?_
  refine r_cells 600 rfl (renL_data 30 500 es) ?_
  refine r_less (tm' := [(2, I .i64 (N : Nat)), (10, .ptr (0, 500) 0), (12, .ptr (0, 600) 0), (13, .d (.lit nilS)), (37, I .i64 (c : Nat)), (38, I .i64 0)]) (hp' := [(500, rbox b' N 0), (600, .box (es.map .d))]) ?_ rfl rfl
  refine r_slot_row 13 1000 3 1 rfl (by decide) (by simp [freeHp, freeTm, Blk.says, PV.saysL, PV.says, saysL_data, rbox]) ?_
  have hbl' : b'.length = (N + 7) / 8 := by rw [← hb', List.length_take]; omega
  have hbb : ∀ x ∈ b', 0 ≤ x ∧ x < 256 := fun x hx => hb x (by rw [← hb'] at hx; exact List.mem_of_mem_take hx)
  have hgl : ∀ m, (grpA l m).length ≤ 1024 := grpA_le hl1
  skip
  refine r_loop ?_
  refine r_less (r_inv (fun q : Nat × Nat × List Int => ⟨59, [(2, I .i64 (N : Nat)), (10, .ptr (0, 500) 0), (12, .ptr (0, 600) 0), (13, .ref (0, 1000)), (37, I .i64 (c : Nat)), (38, I .i64 (q.1 : Nat))], [(500, rbox b' N q.2.1), (600, .box (es.map .d)), (1000, .row 3 1 (q.2.2.map fun x => [Dint x]))], H⟩)
    (fun q => q.1 ≤ c ∧ q.2.1 ≤ N ∧ q.2.2.length = q.1 ∧ decL l lg b' N (c - q.1) q.2.1 q.2.2 = decL l lg b' N c 0 []) (fun q => c - q.1) ?_ (0, 0, []) ⟨by simp, by simp, rfl, rfl⟩) rfl rfl
  intro ⟨k, pos, acc⟩ ⟨h2, h3, h4, h5⟩ ih
  simp only at h2 h3 h4 h5 ih ⊢
  have hP : ∀ r, decL l lg b' N c 0 [] = r → decP l 15 b N c = if r.2.1 ≠ 0 then ([], r.2.1) else if (r.2.2 : Int) ≠ N then ([], 9) else (r.1, 0) := fun r hr => by
    rw [decP, if_neg (by rw [hv]; simp; omega), if_neg (by omega)]
    simp only [Int.toNat_natCast]
    rw [hb', ← decL_15 ht, hr]
  by_cases hlt : k < c
  · rw [show c - k = (c - (k + 1)) + 1 by omega, decL] at h5
    have hS := symbol_s l es lg ht b' N pos (by omega) hbb (by omega) h3 hgl
    have hsp := symR_pos l lg b' N 20 pos 1 0 h3
    by_cases he : (symR l lg b' N 20 pos 1 0).2.2 = 0
    · rw [if_neg (by omega)] at h5
      repeat' (first | (refine k_op1 ?_; (first | refine o_sv rfl (by decide) ?_ | (refine k_bin ?_; (refine o_val (v_add (wi64 (by omega) (by omega))) rfl rfl (by decide) ?_)) | (refine k_blt ?_; (refine o_app1 (g := fun x : Int => [Dint x]) rfl rfl (symR l lg b' N 20 pos 1 0).2.1 rfl rfl rfl rfl rfl rfl (by simp [freeHp, freeTm, Blk.says, PV.saysL, PV.says, PV.lift, saysL_data, rbox]) (by decide) (by omega) ?_)) | (refine k_call ?_; (refine o_effr (eff_swap hS) rfl rfl rfl (by decide) ?_)) | (refine k_lit ?_; (refine o_lit rfl rfl rfl rfl rfl rfl rfl rfl (by decide) ?_)))) | (refine k_ops ?_; (first | refine o_go (by first | exact .inl rfl | exact .inr ⟨_, _, _, rfl, rfl, rfl⟩) ?_ | refine o_nil ?_)) | (refine k_run ?_; (first | refine r_seq ?_ | refine r_region ?_ | refine r_skip ?_ | refine r_block ?_ | refine r_inBlock ?_ | refine r_if rfl (fun _ => ?_) (fun _ => ?_) | refine r_ifn rfl (fun _ => ?_) (fun _ => ?_) | refine r_exit rfl ?_)))
      all_goals try (exfalso; omega)
      refine r_ren 52 1000 rfl rfl ?_
      refine r_cells 600 rfl (renL_data 52 1000 es) ?_
      exact r_less (ih (k + 1, (symR l lg b' N 20 pos 1 0).1, acc ++ [(symR l lg b' N 20 pos 1 0).2.1]) ⟨by simp only; omega, hsp, by simp; omega, h5⟩ (by simp only; omega)) rfl rfl
    · rw [if_pos he] at h5
      repeat' (first | (refine k_op1 ?_; (first | refine o_sv rfl (by decide) ?_ | (refine k_call ?_; (refine o_effr (eff_swap hS) rfl rfl rfl (by decide) ?_)) | (refine k_lit ?_; (refine o_lit rfl rfl rfl rfl rfl rfl rfl rfl (by decide) ?_)))) | (refine k_ops ?_; (first | refine o_go (by first | exact .inl rfl | exact .inr ⟨_, _, _, rfl, rfl, rfl⟩) ?_ | refine o_nil ?_)) | (refine k_run ?_; (first | refine r_seq ?_ | refine r_region ?_ | refine r_skip ?_ | refine r_block ?_ | refine r_if rfl (fun _ => ?_) (fun _ => ?_) | refine r_ifn rfl (fun _ => ?_) (fun _ => ?_) | refine r_exit rfl ?_)))
      all_goals try (exfalso; omega)
      refine r_nil 8 rfl ?_
      refine r_ret Try.func21 _ (res_two rfl rfl rfl) ⟨?_, rfl⟩
      rw [hP _ h5.symm, if_pos he]; rfl
  · obtain rfl : k = c := by omega
    rw [Nat.sub_self, decL] at h5
    have hpos := rpos_s b' N pos 0
    by_cases hn : pos = N
    · subst hn
      refine r_freeze 1000 rfl ?_
      repeat' (first | (refine k_op1 ?_; (first | refine o_sv rfl (by decide) ?_ | (refine k_call ?_; (refine o_effk hpos rfl (bk1 rfl) (by decide) ?_)))) | (refine k_ops ?_; (first | refine o_go (by first | exact .inl rfl | exact .inr ⟨_, _, _, rfl, rfl, rfl⟩) ?_ | refine o_nil ?_)) | (refine k_run ?_; (first | refine r_seq ?_ | refine r_region ?_ | refine r_skip ?_ | refine r_block ?_ | refine r_if rfl (fun _ => ?_) (fun _ => ?_) | refine r_ifn rfl (fun _ => ?_) (fun _ => ?_) | refine r_exit rfl ?_)))
      all_goals try (exfalso; omega)
      refine r_ret Try.func21 _ (res_two rfl rfl rfl) ⟨?_, rfl⟩
      rw [hP _ h5.symm, if_neg (by simp), if_neg (by simp)]; rfl
    · repeat' (first | (refine k_op1 ?_; (first | refine o_sv rfl (by decide) ?_ | (refine k_call ?_; (refine o_effk hpos rfl (bk1 rfl) (by decide) ?_)))) | (refine k_ops ?_; (first | refine o_go (by first | exact .inl rfl | exact .inr ⟨_, _, _, rfl, rfl, rfl⟩) ?_ | refine o_nil ?_)) | (refine k_run ?_; (first | refine r_seq ?_ | refine r_region ?_ | refine r_skip ?_ | refine r_block ?_ | refine r_if rfl (fun _ => ?_) (fun _ => ?_) | refine r_ifn rfl (fun _ => ?_) (fun _ => ?_) | refine r_exit rfl ?_)))
      all_goals try (exfalso; omega)
      refine r_nil 8 rfl ?_
      refine r_ret Try.func21 _ (res_two rfl rfl rfl) ⟨?_, rfl⟩
      rw [hP _ h5.symm, if_neg (by simp), if_pos (by simp only; omega)]; rfl
end Go.Proofs.Ytlgdilkmcfpjjaa
