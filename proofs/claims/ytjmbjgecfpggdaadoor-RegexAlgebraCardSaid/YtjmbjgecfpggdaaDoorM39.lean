/- A part of the proof: G39. -/
import Derived.Test.YtjmbjgecfpggdaaDoorM38
import Derived.Test.YtjmbjgecfpggdaaDoorRc
set_option linter.all false
set_option linter.unusedVariables false
set_option linter.unusedSimpArgs false
namespace Go.Proofs.YtjmbjgecfpggdaaDoor
open Go.Ab Go.Rx
set_option maxHeartbeats 20000000
set_option maxRecDepth 100000
set_option linter.unusedVariables false
set_option linter.unusedSimpArgs false
set_option linter.unusedSectionVars false
attribute [local irreducible] Run Ops Op1 Does Val Tr PureF Eff1 NF Rel EffV EffM EffN
abbrev Uq := Int × Int × Int × Bool
abbrev uqc (u : Uq) : List D := [Di32 u.1, Dint u.2.1, Dint u.2.2.1, Dbool u.2.2.2]
def uQ : Nat → List U → List Uq
  | _, [] => []
  | i, u :: l => (u.r, (i : Int), (u.n : Int), false) :: uQ (i + u.n) l
def okf (u : Uq) : Uq := (u.1, u.2.1, u.2.2.1, !decide (u.1 = 65533) || decide (u.2.2.1 = 3))
theorem uQ_all : ∀ (l : List U) (i : Nat), ((uQ i l).map okf).all (fun u => u.2.2.2) = l.all okUn
  | [], i => rfl
  | u :: l, i => by
    rw [uQ, List.map_cons, List.all_cons, List.all_cons, uQ_all l]
    congr 1
    simp only [okf, okUn]
    congr 1
    rw [decide_eq_decide]; omega
theorem uQ_len : ∀ (l : List U) (i : Nat), (uQ i l).length = l.length
  | [], i => rfl
  | u :: l, i => by rw [uQ, List.length_cons, List.length_cons, uQ_len l]
def inv1 (s : ByteArray) (q : Nat) (l : List Uq) : Prop := (l = [] ∧ q = 0) ∨ (∃ P r a, l = P ++ [(r, a, 0, false)] ∧ 0 ≤ a ∧ a ≤ (q : Int) ∧ P.length < q ∧ P ++ (r, a, (q : Int) - a, false) :: uQ q (rst s q) = uQ 0 (rst s 0))
theorem units_r (s : ByteArray) (hs : s.size ≤ 1000000) : PureF Tryd.prog 30 [S s] (.d (.slice (((uQ 0 (rst s 0)).map okf).map uqc))) := by
  refine pure_of fun H => ?_
  refine spec_of Tryd.func30 (by kernel_rfl) rfl (by simp) ?_
  dsimp only [Tryd.f30]
  repeat' (first | (refine k_op1 ?_; (first | refine o_sv rfl (by decide) ?_ | refine o_range rfl rfl rfl (by decide) ?_)) | (refine k_ops ?_; (first | refine o_go (by first | exact .inl rfl | exact .inr ⟨_, _, _, rfl, rfl, rfl⟩) ?_ | refine o_nil ?_)) | (refine k_run ?_; (first | refine r_seq ?_ | refine r_region ?_ | refine r_block ?_)))
  all_goals try (exfalso; omega)
  refine r_slot_row 3 1000 53 4 rfl rfl rfl ?_
  refine r_loop ?_
  refine r_less (r_inv (fun q : Nat × List Uq => ⟨81, [(0, S s), (3, .ref (0, 1000)), (8, .ptr (0, 8) 0)], [(8, .siter s q.1), (1000, .row 53 4 (q.2.map uqc))], H⟩) (fun q => q.1 ≤ s.size ∧ inv1 s q.1 q.2) (fun q => s.size - q.1) ?_ (0, []) ⟨Nat.zero_le _, .inl ⟨rfl, rfl⟩⟩) rfl rfl
  rintro ⟨q, l⟩ ⟨i1, i2⟩ ih
  simp only at i1 i2 ih ⊢
  by_cases hlt : q < s.size
  · have hd := rst_lt hlt
    have hw := dec_w s q hlt
    have hdh := dec_hi s q
    rcases i2 with ⟨rfl, rfl⟩ | ⟨P, r, a, rfl, a0, a1, hpl, heq⟩
    · have ih' := ih (0 + (Utf8.decode s 0).2, ([((((Utf8.decode s 0).1 : Nat) : Int), ((0 : Nat) : Int), (0 : Int), false)] : List Uq)) ⟨by simp only; omega, .inr ⟨[], _, _, rfl, by simp, by simp only; omega, by simp only [List.length_nil]; omega, by
        simp only
        rw [hd, uQ, List.nil_append]
        congr 2
        simp⟩⟩ (by simp only; omega)
      repeat' (first | (refine k_op1 ?_; (first | refine o_sv rfl (by decide) ?_ | (refine k_blt ?_; (first | refine o_app1 (g := uqc) rfl rfl (((((Utf8.decode s 0).1 : Nat) : Int), ((0 : Nat) : Int), (0 : Int), false) : Uq) rfl rfl rfl rfl rfl rfl rfl (by decide) (by simp) ?_ | refine o_val (v_lenr rfl) rfl rfl (by decide) ?_)) | (refine k_build ?_; (refine o_build rfl rfl rfl rfl rfl rfl rfl (by decide) ?_)) | (refine k_lit ?_; (refine o_lit rfl rfl rfl rfl rfl rfl rfl rfl (by decide) ?_)) | refine o_next_more hlt rfl rfl (by decide) ?_)) | (refine k_ops ?_; (first | refine o_go (by first | exact .inl rfl | exact .inr ⟨_, _, _, rfl, rfl, rfl⟩) ?_ | refine o_nil ?_)) | (refine k_run ?_; (first | refine r_seq ?_ | refine r_region ?_ | refine r_true rfl ?_ | refine r_false rfl ?_ | refine r_skip ?_ | refine r_block ?_ | refine r_inBlock ?_)))
      all_goals try (exfalso; simp at *; done)
      all_goals refine r_ren 36 1000 rfl rfl ?_
      all_goals exact r_less ih' rfl rfl
    · have hix : (P ++ [(r, a, (0 : Int), false)])[((((((P ++ [(r, a, (0 : Int), false)]).map uqc).length : Nat) : Int) - 1)).toNat]? = some ((r, a, 0, false) : Uq) := by
        rw [List.length_map, List.length_append, List.length_singleton, show (((P.length + 1 : Nat) : Int) - 1).toNat = P.length by omega]; simp
      have hse : (P ++ [(r, a, (0 : Int), false)]).set ((((((P ++ [(r, a, (0 : Int), false)]).map uqc).length : Nat) : Int) - 1)).toNat ((r, a, (q : Int) - a, false) : Uq) = P ++ [(r, a, (q : Int) - a, false)] := by
        rw [List.length_map, List.length_append, List.length_singleton, show (((P.length + 1 : Nat) : Int) - 1).toNat = P.length by omega]; simp
      have hln : ((P ++ [(r, a, (0 : Int), false)]).map uqc).length = P.length + 1 := by simp
      have hln2 : (P ++ [(r, a, (q : Int) - a, false)]).length = P.length + 1 := by simp
      have ih' := ih (q + (Utf8.decode s q).2, (P ++ [(r, a, (q : Int) - a, false)]) ++ ([((((Utf8.decode s q).1 : Nat) : Int), ((q : Nat) : Int), (0 : Int), false)] : List Uq)) ⟨by simp only; omega, .inr ⟨P ++ [(r, a, (q : Int) - a, false)], _, _, rfl, by simp, by simp only; omega, by simp only [List.length_append, List.length_singleton]; omega, by
        simp only
        rw [hd, uQ] at heq
        rw [← heq, List.append_assoc, List.singleton_append, show (((q + (Utf8.decode s q).2 : Nat) : Int) - (q : Nat)) = ((Utf8.decode s q).2 : Nat) by omega]⟩⟩ (by simp only; omega)
      repeat' (first | (refine k_op1 ?_; (first | refine o_sv rfl (by decide) ?_ | (refine k_load ?_; (refine o_val (v_rloadm (u := Dint a) hix rfl rfl rfl) rfl rfl (by decide) ?_)) | (refine k_field ?_; (refine o_val (v_fieldr rfl rfl) rfl rfl (by decide) ?_)) | (refine k_index ?_; (refine o_val (v_rindex rfl (by omega) (by omega) rfl) rfl rfl (by decide) ?_)) | (refine k_bin ?_; (refine o_val (v_sub (wi64 (by omega) (by omega))) rfl rfl (by decide) ?_)) | (refine k_blt ?_; (first | refine o_app1 (g := uqc) rfl rfl (((((Utf8.decode s q).1 : Nat) : Int), ((q : Nat) : Int), (0 : Int), false) : Uq) rfl rfl rfl rfl rfl rfl rfl (by decide) (by omega) ?_ | refine o_val (v_lenr rfl) rfl rfl (by decide) ?_)) | (refine k_store ?_; (refine o_rstorem ((r, a, (q : Int) - a, false) : Uq) rfl rfl rfl rfl hix rfl rfl rfl hse ?_)) | (refine k_build ?_; (refine o_build rfl rfl rfl rfl rfl rfl rfl (by decide) ?_)) | (refine k_lit ?_; (refine o_lit rfl rfl rfl rfl rfl rfl rfl rfl (by decide) ?_)) | refine o_next_more hlt rfl rfl (by decide) ?_)) | (refine k_ops ?_; (first | refine o_go (by first | exact .inl rfl | exact .inr ⟨_, _, _, rfl, rfl, rfl⟩) ?_ | refine o_nil ?_)) | (refine k_run ?_; (first | refine r_seq ?_ | refine r_region ?_ | refine r_true rfl ?_ | refine r_skip ?_ | refine r_block ?_ | refine r_inBlock ?_ | refine r_if rfl (fun _ => ?_) (fun _ => ?_))))
      all_goals try (exfalso; omega)
      all_goals refine r_ren 36 1000 rfl rfl ?_
      all_goals exact r_less ih' rfl rfl
  · obtain rfl : q = s.size := by omega
    have hd := rst_ge (s := s) (i := s.size) (Nat.le_refl _)
    obtain ⟨L, hL⟩ : ∃ L, uQ 0 (rst s 0) = L := ⟨_, rfl⟩
    have hLl : L.length ≤ s.size := by
      rw [← hL, uQ_len]
      have := rst_len s s.size 0 (by omega)
      omega
    rw [hL]
    rcases i2 with ⟨rfl, h0⟩ | ⟨P, r, a, rfl, a0, a1, hpl, heq⟩
    · have hLn : L = [] := by rw [← hL, rst_ge (by omega)]; rfl
      repeat' (first | (refine k_op1 ?_; (first | refine o_sv rfl (by decide) ?_ | (refine k_blt ?_; (refine o_val (v_lenr rfl) rfl rfl (by decide) ?_)) | refine o_next_over hlt rfl rfl (by decide) ?_)) | (refine k_ops ?_; (first | refine o_go (by first | exact .inl rfl | exact .inr ⟨_, _, _, rfl, rfl, rfl⟩) ?_ | refine o_nil ?_)) | (refine k_run ?_; (first | refine r_seq ?_ | refine r_region ?_ | refine r_false rfl ?_ | refine r_skip ?_ | refine r_block ?_ | refine r_exit rfl ?_)))
      all_goals try (exfalso; simp at *; done)
      refine r_loop ?_
      refine r_less (r_inv (fun k : Nat => ⟨81, [(3, .ref (0, 1000)), (57, I .i64 L.length), (58, I .i64 (k : Nat))], [(1000, .row 53 4 (((L.take k).map okf ++ L.drop k).map uqc))], H⟩) (fun k => k ≤ L.length) (fun k => L.length - k) ?_ 0 (Nat.zero_le _)) (by rw [hLn]; rfl) (by rw [hLn]; rfl)
      intro k k1 ihk
      by_cases hk : k < L.length
      · obtain ⟨u, hu⟩ : ∃ u, L[k]? = some u := ⟨_, List.getElem?_eq_getElem hk⟩
        have hT : ((L.take k).map okf).length = k := by rw [List.length_map, List.length_take]; omega
        have hall : ((L.take k).map okf ++ L.drop k).length = L.length := by rw [List.length_append, hT, List.length_drop]; omega
        have hix : ((L.take k).map okf ++ L.drop k)[((k : Nat) : Int).toNat]? = some u := by
          rw [Int.toNat_natCast, List.getElem?_append_right (by omega), hT, Nat.sub_self, List.getElem?_drop, Nat.add_zero]; exact hu
        have hse : ((L.take k).map okf ++ L.drop k).set ((k : Nat) : Int).toNat (okf u) = (L.take (k + 1)).map okf ++ L.drop (k + 1) := by
          rw [Int.toNat_natCast, List.set_append_right _ _ (by omega), hT, Nat.sub_self, drop_cons hu, List.set_cons_zero, take_succ' hu, List.map_append, List.append_assoc]; rfl
        have hmap : (((L.take k).map okf ++ L.drop k).map uqc).length = L.length := by rw [List.length_map]; exact hall
        have ihk' := ihk (k + 1) (by omega) (by omega)
        obtain ⟨u1, u2, u3, u4⟩ := u
        by_cases hbad : u1 = 65533
        · have hok : okf (u1, u2, u3, u4) = (u1, u2, u3, decide (u3 = 3)) := by simp [okf, hbad]
          rw [hok] at hse
          repeat' (first | (refine k_op1 ?_; (first | refine o_sv rfl (by decide) ?_ | (refine k_load ?_; (first | refine o_val (v_rloadm (u := Di32 u1) hix rfl rfl rfl) rfl rfl (by decide) ?_ | refine o_val (v_rloadm (u := Dint u3) hix rfl rfl rfl) rfl rfl (by decide) ?_)) | (refine k_field ?_; (refine o_val (v_fieldr rfl rfl) rfl rfl (by decide) ?_)) | (refine k_index ?_; (refine o_val (v_rindex rfl (by omega) (by omega) rfl) rfl rfl (by decide) ?_)) | (refine k_bin ?_; (refine o_val (v_add (wi64 (by omega) (by omega))) rfl rfl (by decide) ?_)) | (refine k_store ?_; (refine o_rstorem ((u1, u2, u3, decide (u3 = 3)) : Uq) rfl rfl rfl rfl hix rfl rfl rfl hse ?_)))) | (refine k_ops ?_; (first | refine o_go (by first | exact .inl rfl | exact .inr ⟨_, _, _, rfl, rfl, rfl⟩) ?_ | refine o_nil ?_ | refine o_no rfl rfl (by decide) ?_ | refine o_casen rfl rfl (fun _ => ?_) (fun _ => ?_))) | (refine k_run ?_; (first | refine r_seq ?_ | refine r_region ?_ | refine r_skip ?_ | refine r_block ?_ | refine r_inBlock ?_ | refine r_if rfl (fun _ => ?_) (fun _ => ?_) | refine r_exit rfl ?_)))
          all_goals try (exfalso; omega)
          all_goals exact r_less ihk' rfl rfl
        · have hok : okf (u1, u2, u3, u4) = (u1, u2, u3, true) := by simp [okf, hbad]
          rw [hok] at hse
          repeat' (first | (refine k_op1 ?_; (first | refine o_sv rfl (by decide) ?_ | (refine k_load ?_; (first | refine o_val (v_rloadm (u := Di32 u1) hix rfl rfl rfl) rfl rfl (by decide) ?_ | refine o_val (v_rloadm (u := Dint u3) hix rfl rfl rfl) rfl rfl (by decide) ?_)) | (refine k_field ?_; (refine o_val (v_fieldr rfl rfl) rfl rfl (by decide) ?_)) | (refine k_index ?_; (refine o_val (v_rindex rfl (by omega) (by omega) rfl) rfl rfl (by decide) ?_)) | (refine k_bin ?_; (refine o_val (v_add (wi64 (by omega) (by omega))) rfl rfl (by decide) ?_)) | (refine k_store ?_; (refine o_rstorem ((u1, u2, u3, true) : Uq) rfl rfl rfl rfl hix rfl rfl rfl hse ?_)))) | (refine k_ops ?_; (first | refine o_go (by first | exact .inl rfl | exact .inr ⟨_, _, _, rfl, rfl, rfl⟩) ?_ | refine o_nil ?_ | refine o_no rfl rfl (by decide) ?_ | refine o_casen rfl rfl (fun _ => ?_) (fun _ => ?_))) | (refine k_run ?_; (first | refine r_seq ?_ | refine r_region ?_ | refine r_skip ?_ | refine r_block ?_ | refine r_inBlock ?_ | refine r_if rfl (fun _ => ?_) (fun _ => ?_) | refine r_exit rfl ?_)))
          all_goals try (exfalso; omega)
          all_goals exact r_less ihk' rfl rfl
      · obtain rfl : k = L.length := by omega
        rw [List.take_length, List.drop_length, List.append_nil]
        repeat' (first | (refine k_op1 ?_; (refine o_sv rfl (by decide) ?_)) | (refine k_ops ?_; (first | refine o_go (by first | exact .inl rfl | exact .inr ⟨_, _, _, rfl, rfl, rfl⟩) ?_ | refine o_nil ?_)) | (refine k_run ?_; (first | refine r_seq ?_ | refine r_region ?_ | refine r_skip ?_ | refine r_block ?_ | refine r_if rfl (fun _ => ?_) (fun _ => ?_) | refine r_exit rfl ?_)))
        all_goals try (exfalso; omega)
        refine r_freeze 1000 rfl ?_
        exact r_ret Tryd.func30 _ (res_one rfl rfl) ⟨rfl, rfl⟩
    · rw [hd, uQ, hL] at heq
      have hix : (P ++ [(r, a, (0 : Int), false)])[((((((P ++ [(r, a, (0 : Int), false)]).map uqc).length : Nat) : Int) - 1)).toNat]? = some ((r, a, 0, false) : Uq) := by
        rw [List.length_map, List.length_append, List.length_singleton, show (((P.length + 1 : Nat) : Int) - 1).toNat = P.length by omega]; simp
      have hse : (P ++ [(r, a, (0 : Int), false)]).set ((((((P ++ [(r, a, (0 : Int), false)]).map uqc).length : Nat) : Int) - 1)).toNat ((r, a, (s.size : Int) - a, false) : Uq) = P ++ [(r, a, (s.size : Int) - a, false)] := by
        rw [List.length_map, List.length_append, List.length_singleton, show (((P.length + 1 : Nat) : Int) - 1).toNat = P.length by omega]; simp
      rw [heq] at hse
      have hln : ((P ++ [(r, a, (0 : Int), false)]).map uqc).length = P.length + 1 := by simp
      repeat' (first | (refine k_op1 ?_; (first | refine o_sv rfl (by decide) ?_ | (refine k_load ?_; (refine o_val (v_rloadm (u := Dint a) hix rfl rfl rfl) rfl rfl (by decide) ?_)) | (refine k_field ?_; (refine o_val (v_fieldr rfl rfl) rfl rfl (by decide) ?_)) | (refine k_index ?_; (refine o_val (v_rindex rfl (by omega) (by omega) rfl) rfl rfl (by decide) ?_)) | (refine k_bin ?_; (refine o_val (v_sub (wi64 (by omega) (by omega))) rfl rfl (by decide) ?_)) | (refine k_blt ?_; (first | refine o_val (v_lenr rfl) rfl rfl (by decide) ?_ | refine o_val (v_lens rfl) rfl rfl (by decide) ?_)) | (refine k_store ?_; (refine o_rstorem ((r, a, (s.size : Int) - a, false) : Uq) rfl rfl rfl rfl hix rfl rfl rfl hse ?_)) | refine o_next_over hlt rfl rfl (by decide) ?_)) | (refine k_ops ?_; (first | refine o_go (by first | exact .inl rfl | exact .inr ⟨_, _, _, rfl, rfl, rfl⟩) ?_ | refine o_nil ?_)) | (refine k_run ?_; (first | refine r_seq ?_ | refine r_region ?_ | refine r_false rfl ?_ | refine r_skip ?_ | refine r_block ?_ | refine r_if rfl (fun _ => ?_) (fun _ => ?_) | refine r_exit rfl ?_)))
      all_goals try (exfalso; omega)
      refine r_loop ?_
      refine r_less (r_inv (fun k : Nat => ⟨81, [(3, .ref (0, 1000)), (57, I .i64 L.length), (58, I .i64 (k : Nat))], [(1000, .row 53 4 (((L.take k).map okf ++ L.drop k).map uqc))], H⟩) (fun k => k ≤ L.length) (fun k => L.length - k) ?_ 0 (Nat.zero_le _)) (by rw [show (L.length : Int) = (((L.map uqc).length : Nat) : Int) by rw [List.length_map]]; rfl) rfl
      intro k k1 ihk
      by_cases hk : k < L.length
      · obtain ⟨u, hu⟩ : ∃ u, L[k]? = some u := ⟨_, List.getElem?_eq_getElem hk⟩
        have hT : ((L.take k).map okf).length = k := by rw [List.length_map, List.length_take]; omega
        have hall : ((L.take k).map okf ++ L.drop k).length = L.length := by rw [List.length_append, hT, List.length_drop]; omega
        have hix : ((L.take k).map okf ++ L.drop k)[((k : Nat) : Int).toNat]? = some u := by
          rw [Int.toNat_natCast, List.getElem?_append_right (by omega), hT, Nat.sub_self, List.getElem?_drop, Nat.add_zero]; exact hu
        have hse : ((L.take k).map okf ++ L.drop k).set ((k : Nat) : Int).toNat (okf u) = (L.take (k + 1)).map okf ++ L.drop (k + 1) := by
          rw [Int.toNat_natCast, List.set_append_right _ _ (by omega), hT, Nat.sub_self, drop_cons hu, List.set_cons_zero, take_succ' hu, List.map_append, List.append_assoc]; rfl
        have hmap : (((L.take k).map okf ++ L.drop k).map uqc).length = L.length := by rw [List.length_map]; exact hall
        have ihk' := ihk (k + 1) (by omega) (by omega)
        obtain ⟨u1, u2, u3, u4⟩ := u
        by_cases hbad : u1 = 65533
        · have hok : okf (u1, u2, u3, u4) = (u1, u2, u3, decide (u3 = 3)) := by simp [okf, hbad]
          rw [hok] at hse
          repeat' (first | (refine k_op1 ?_; (first | refine o_sv rfl (by decide) ?_ | (refine k_load ?_; (first | refine o_val (v_rloadm (u := Di32 u1) hix rfl rfl rfl) rfl rfl (by decide) ?_ | refine o_val (v_rloadm (u := Dint u3) hix rfl rfl rfl) rfl rfl (by decide) ?_)) | (refine k_field ?_; (refine o_val (v_fieldr rfl rfl) rfl rfl (by decide) ?_)) | (refine k_index ?_; (refine o_val (v_rindex rfl (by omega) (by omega) rfl) rfl rfl (by decide) ?_)) | (refine k_bin ?_; (refine o_val (v_add (wi64 (by omega) (by omega))) rfl rfl (by decide) ?_)) | (refine k_store ?_; (refine o_rstorem ((u1, u2, u3, decide (u3 = 3)) : Uq) rfl rfl rfl rfl hix rfl rfl rfl hse ?_)))) | (refine k_ops ?_; (first | refine o_go (by first | exact .inl rfl | exact .inr ⟨_, _, _, rfl, rfl, rfl⟩) ?_ | refine o_nil ?_ | refine o_no rfl rfl (by decide) ?_ | refine o_casen rfl rfl (fun _ => ?_) (fun _ => ?_))) | (refine k_run ?_; (first | refine r_seq ?_ | refine r_region ?_ | refine r_skip ?_ | refine r_block ?_ | refine r_inBlock ?_ | refine r_if rfl (fun _ => ?_) (fun _ => ?_) | refine r_exit rfl ?_)))
          all_goals try (exfalso; omega)
          all_goals exact r_less ihk' rfl rfl
        · have hok : okf (u1, u2, u3, u4) = (u1, u2, u3, true) := by simp [okf, hbad]
          rw [hok] at hse
          repeat' (first | (refine k_op1 ?_; (first | refine o_sv rfl (by decide) ?_ | (refine k_load ?_; (first | refine o_val (v_rloadm (u := Di32 u1) hix rfl rfl rfl) rfl rfl (by decide) ?_ | refine o_val (v_rloadm (u := Dint u3) hix rfl rfl rfl) rfl rfl (by decide) ?_)) | (refine k_field ?_; (refine o_val (v_fieldr rfl rfl) rfl rfl (by decide) ?_)) | (refine k_index ?_; (refine o_val (v_rindex rfl (by omega) (by omega) rfl) rfl rfl (by decide) ?_)) | (refine k_bin ?_; (refine o_val (v_add (wi64 (by omega) (by omega))) rfl rfl (by decide) ?_)) | (refine k_store ?_; (refine o_rstorem ((u1, u2, u3, true) : Uq) rfl rfl rfl rfl hix rfl rfl rfl hse ?_)))) | (refine k_ops ?_; (first | refine o_go (by first | exact .inl rfl | exact .inr ⟨_, _, _, rfl, rfl, rfl⟩) ?_ | refine o_nil ?_ | refine o_no rfl rfl (by decide) ?_ | refine o_casen rfl rfl (fun _ => ?_) (fun _ => ?_))) | (refine k_run ?_; (first | refine r_seq ?_ | refine r_region ?_ | refine r_skip ?_ | refine r_block ?_ | refine r_inBlock ?_ | refine r_if rfl (fun _ => ?_) (fun _ => ?_) | refine r_exit rfl ?_)))
          all_goals try (exfalso; omega)
          all_goals exact r_less ihk' rfl rfl
      · obtain rfl : k = L.length := by omega
        rw [List.take_length, List.drop_length, List.append_nil]
        repeat' (first | (refine k_op1 ?_; (refine o_sv rfl (by decide) ?_)) | (refine k_ops ?_; (first | refine o_go (by first | exact .inl rfl | exact .inr ⟨_, _, _, rfl, rfl, rfl⟩) ?_ | refine o_nil ?_)) | (refine k_run ?_; (first | refine r_seq ?_ | refine r_region ?_ | refine r_skip ?_ | refine r_block ?_ | refine r_if rfl (fun _ => ?_) (fun _ => ?_) | refine r_exit rfl ?_)))
        all_goals try (exfalso; omega)
        refine r_freeze 1000 rfl ?_
        exact r_ret Tryd.func30 _ (res_one rfl rfl) ⟨rfl, rfl⟩
theorem rvalid_s (s : ByteArray) (hs : s.size ≤ 1000000) : PureF Tryd.prog 13 [S s] (B (vldS s)) := by
  refine pure_of fun H => ?_
  have hu := units_r s hs
  have hall := uQ_all (rst s 0) 0
  change _ = vldS s at hall
  have hlen : ((uQ 0 (rst s 0)).map okf).length ≤ s.size := by
    rw [List.length_map, uQ_len]
    have := rst_len s s.size 0 (by omega)
    omega
  generalize (uQ 0 (rst s 0)).map okf = L at *
  rw [← hall]
  refine spec_of Tryd.func13 (by kernel_rfl) rfl (by simp) ?_
  dsimp only [Tryd.f13]
  repeat' (first | (refine k_op1 ?_; (first | refine o_sv rfl (by decide) ?_ | (refine k_blt ?_; (refine o_val (v_lenm rfl) rfl rfl (by decide) ?_)) | (refine k_call ?_; (refine o_fn hu rfl (by decide) ?_)))) | (refine k_ops ?_; (first | refine o_go (by first | exact .inl rfl | exact .inr ⟨_, _, _, rfl, rfl, rfl⟩) ?_ | refine o_nil ?_)) | (refine k_run ?_; (first | refine r_seq ?_ | refine r_region ?_ | refine r_block ?_)))
  all_goals try (exfalso; omega)
  refine r_loop ?_
  refine r_less (r_inv (fun q : Nat => ⟨16, [(6, .d (.slice (L.map uqc))), (7, I .i64 L.length), (8, I .i64 (q : Nat))], [], H⟩) (fun q => q ≤ L.length ∧ (L.drop q).all (fun u => u.2.2.2) = L.all (fun u => u.2.2.2)) (fun q => L.length - q) ?_ 0 ⟨Nat.zero_le _, rfl⟩) rfl rfl
  rintro i ⟨i1, i2⟩ ihl
  by_cases hlt : i < L.length
  · obtain ⟨u, hui⟩ : ∃ u, L[i]? = some u := ⟨_, List.getElem?_eq_getElem hlt⟩
    rw [drop_cons hui, List.all_cons] at i2
    have hx : (L.map uqc)[((i : Nat) : Int).toNat]? = some (uqc u) := by simp [hui]
    obtain ⟨u1, u2, u3, u4⟩ := u
    simp only at i2
    cases u4 with
    | true =>
      rw [Bool.true_and] at i2
      repeat' (first | (refine k_op1 ?_; (first | refine o_sv rfl (by decide) ?_ | (refine k_load ?_; (first | refine o_val (v_load rfl rfl rfl rfl) rfl rfl (by decide) ?_ | refine o_val (v_loadea rfl rfl) rfl rfl (by decide) ?_)) | (refine k_field ?_; (refine o_val (v_field rfl rfl) rfl rfl (by decide) ?_)) | (refine k_index ?_; (refine o_val (v_index (ys := L.map uqc) rfl (by omega) hx rfl) rfl rfl (by decide) ?_)) | (refine k_bin ?_; (refine o_val (v_add (wi64 (by omega) (by omega))) rfl rfl (by decide) ?_)) | (refine k_store ?_; (refine o_store0 rfl rfl rfl rfl rfl rfl ?_)) | (refine k_alloc ?_; (refine o_does (d_alloc rfl rfl (by decide)) ?_)))) | (refine k_ops ?_; (first | refine o_go (by first | exact .inl rfl | exact .inr ⟨_, _, _, rfl, rfl, rfl⟩) ?_ | refine o_nil ?_)) | (refine k_run ?_; (first | refine r_seq ?_ | refine r_region ?_ | refine r_false rfl ?_ | refine r_skip ?_ | refine r_block ?_ | refine r_inBlock ?_ | refine r_if rfl (fun _ => ?_) (fun _ => ?_) | refine r_exit rfl ?_)))
      all_goals try (exfalso; omega)
      all_goals exact r_less (ihl (i + 1) ⟨by omega, i2⟩ (by omega)) rfl rfl
    | false =>
      rw [Bool.false_and] at i2
      rw [← i2]
      repeat' (first | (refine k_op1 ?_; (first | refine o_sv rfl (by decide) ?_ | (refine k_load ?_; (first | refine o_val (v_load rfl rfl rfl rfl) rfl rfl (by decide) ?_ | refine o_val (v_loadea rfl rfl) rfl rfl (by decide) ?_)) | (refine k_field ?_; (refine o_val (v_field rfl rfl) rfl rfl (by decide) ?_)) | (refine k_index ?_; (refine o_val (v_index (ys := L.map uqc) rfl (by omega) hx rfl) rfl rfl (by decide) ?_)) | (refine k_store ?_; (refine o_store0 rfl rfl rfl rfl rfl rfl ?_)) | (refine k_alloc ?_; (refine o_does (d_alloc rfl rfl (by decide)) ?_)))) | (refine k_ops ?_; (first | refine o_go (by first | exact .inl rfl | exact .inr ⟨_, _, _, rfl, rfl, rfl⟩) ?_ | refine o_nil ?_)) | (refine k_run ?_; (first | refine r_seq ?_ | refine r_region ?_ | refine r_true rfl ?_ | refine r_skip ?_ | refine r_block ?_ | refine r_if rfl (fun _ => ?_) (fun _ => ?_) | refine r_exit rfl ?_)))
      all_goals try (exfalso; omega)
      all_goals exact r_ret Tryd.func13 _ (res_one rfl rfl) ⟨rfl, rfl⟩
  · obtain rfl : i = L.length := by omega
    rw [List.drop_length] at i2
    rw [← i2]
    repeat' (first | (refine k_op1 ?_; (refine o_sv rfl (by decide) ?_)) | (refine k_ops ?_; (first | refine o_go (by first | exact .inl rfl | exact .inr ⟨_, _, _, rfl, rfl, rfl⟩) ?_ | refine o_nil ?_)) | (refine k_run ?_; (first | refine r_seq ?_ | refine r_region ?_ | refine r_skip ?_ | refine r_block ?_ | refine r_if rfl (fun _ => ?_) (fun _ => ?_) | refine r_exit rfl ?_)))
    all_goals try (exfalso; omega)
    all_goals exact r_ret Tryd.func13 _ (res_one rfl rfl) ⟨rfl, rfl⟩
end Go.Proofs.YtjmbjgecfpggdaaDoor
