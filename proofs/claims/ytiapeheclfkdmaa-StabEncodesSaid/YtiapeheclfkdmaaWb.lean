/- What the stable sort of numbers computes, for every list. -/
import Derived.Test.YtiapeheclfkdmaaWa
set_option linter.all false
set_option linter.unusedVariables false
set_option linter.unusedSimpArgs false
namespace Go.Proofs.Ytiapeheclfkdmaa
open Go.Ab Go.Srt
set_option maxHeartbeats 20000000
set_option linter.unusedVariables false
set_option linter.unusedSimpArgs false
attribute [local irreducible] Run Ops Op1 Does Val Tr PureF Eff1 NF Rel

/-- two parts of equal length are exchanged -/
theorem swap_st {α : Type} (u : α → D) (hcu : ∀ x, cellsOf (.d (u x)) = some [.d (u x)]) (hn : ∀ x, allD [.d (u x)] = some [u x]) (cf : FuncId) (kk sl : Nat) (P U V W T : List α) (a b n : Int) (ha : a = P.length) (hb : b = P.length + U.length + V.length) (hnn : n = U.length) (hl : U.length = W.length) (hlen : P.length + U.length + V.length + W.length + T.length ≤ 1000000) :
    Eff1 Try.prog 84 [.ref (0, 1000), I .i64 a, I .i64 b, I .i64 n, .fn (.func cf) [] [.ptr (kk, sl) 0]] [((0, 1000), .row 3 1 ((P ++ (U ++ (V ++ (W ++ T)))).map (fun x => [u x])))] [((0, 1000), .row 3 1 ((P ++ (W ++ (V ++ (U ++ T)))).map (fun x => [u x])))] (.tup []) := by
  refine eff_of fun H hH => ?_
  have hH0 := hH ((0, 1000), .row 3 1 ((P ++ (U ++ (V ++ (W ++ T)))).map (fun x => [u x]))) (by simp)
  refine spec_of Try.func84 (by kernel_rfl) rfl (by simp) ?_
  dsimp only [Try.f84]
  refine r_taker 1000 0 1000 hH0 rfl rfl ?_
  repeat' (first | (refine k_op1 ?_; (refine o_sv rfl (by decide) ?_)) | (refine k_ops ?_; (first | refine o_go (by first | exact .inl rfl | exact .inr ⟨_, _, _, rfl, rfl, rfl⟩) ?_ | refine o_nil ?_)) | (refine k_run ?_; (first | refine r_seq ?_ | refine r_region ?_ | refine r_block ?_)))
  refine r_loop ?_
  refine r_less (r_inv (fun q : Nat × (List α × List α) × (List α × List α) => ⟨38, [(0, .ref (0, 1000)), (1, I .i64 a), (2, I .i64 b), (3, I .i64 n), (10, I .i64 (q.1 : Nat)), (101000, .al (0, 1000) (1, 1000))],
      [(1000, .row 3 1 ((P ++ (q.2.2.1 ++ (q.2.1.2 ++ (V ++ (q.2.1.1 ++ (q.2.2.2 ++ T)))))).map (fun x => [u x])))], upd H (0, 1000) .gone⟩)
    (fun q => q.2.1.1 ++ q.2.1.2 = U ∧ q.2.2.1 ++ q.2.2.2 = W ∧ q.2.1.1.length = q.2.2.1.length ∧ q.1 = q.2.1.1.length) (fun q => q.2.1.2.length) ?_ (0, ([], U), ([], W)) ⟨rfl, rfl, rfl, rfl⟩) rfl rfl
  intro ⟨i, ⟨U1, U2⟩, ⟨W1, W2⟩⟩ ⟨hu, hw, h1, hi⟩ ih
  simp only at hu hw h1 hi ih ⊢
  have hlu := congrArg List.length hu
  have hlw := congrArg List.length hw
  simp only [List.length_append] at hlu hlw
  cases U2 with
  | nil =>
    cases W2 with
    | cons w W2 => simp at hlu hlw; omega
    | nil =>
      simp at hlu hlw
      repeat' (first | (refine k_op1 ?_; (refine o_sv rfl (by decide) ?_)) | (refine k_ops ?_; (first | refine o_go (by first | exact .inl rfl | exact .inr ⟨_, _, _, rfl, rfl, rfl⟩) ?_ | refine o_nil ?_)) | (refine k_run ?_; (first | refine r_seq ?_ | refine r_region ?_ | refine r_skip ?_ | refine r_block ?_ | refine r_tr ?_ | refine r_if rfl (fun _ => ?_) (fun _ => ?_) | refine r_exit rfl ?_)) | (refine k_tr ?_; (first | refine t_sv rfl (by first | exact rfl | exact ⟨_, rfl, rfl, rfl⟩) (by decide) ?_ | (refine kt_bin ?_; (refine t_val (v_add (wi64 (by omega) (by omega))) (by first | exact rfl | exact ⟨_, rfl, rfl, rfl⟩) rfl rfl (by decide) ?_)))))
      all_goals try (exfalso; omega)
      refine r_give 1000 0 1000 (raw := .row 3 1 ((P ++ (W1 ++ ([] ++ (V ++ (U1 ++ ([] ++ T)))))).map (fun x => [u x]))) rfl rfl rfl rfl rfl ?_
      refine r_end Try.func84 _ (res_none rfl) ⟨rfl, ?_⟩
      simp at hu hw; subst hu; subst hw
      simp [updL, upd_upd]
  | cons x U2 =>
    cases W2 with
    | nil => simp at hlu hlw; omega
    | cons y W2 =>
      simp only [List.length_cons] at hlu hlw
      have e0 : P ++ (W1 ++ (x :: U2 ++ (V ++ (U1 ++ (y :: W2 ++ T))))) = (P ++ W1) ++ x :: (U2 ++ (V ++ (U1 ++ (y :: (W2 ++ T))))) := by simp
      have e1 : P ++ (W1 ++ (x :: U2 ++ (V ++ (U1 ++ (y :: W2 ++ T))))) = (P ++ W1 ++ x :: U2 ++ V ++ U1) ++ y :: (W2 ++ T) := by simp
      have hx : (P ++ (W1 ++ (x :: U2 ++ (V ++ (U1 ++ (y :: W2 ++ T))))))[(a + (i : Int)).toNat]? = some x := get_of_eq e0 (by simp; omega)
      have hy : (P ++ (W1 ++ (x :: U2 ++ (V ++ (U1 ++ (y :: W2 ++ T))))))[(b + (i : Int)).toNat]? = some y := get_of_eq e1 (by simp; omega)
      have hs1 : (P ++ (W1 ++ (x :: U2 ++ (V ++ (U1 ++ (y :: W2 ++ T)))))).set (a + (i : Int)).toNat y = (P ++ W1) ++ y :: (U2 ++ (V ++ (U1 ++ (y :: (W2 ++ T))))) := set_of_eq e0 (by simp; omega)
      have e2 : (P ++ W1) ++ y :: (U2 ++ (V ++ (U1 ++ (y :: (W2 ++ T))))) = (P ++ W1 ++ y :: U2 ++ V ++ U1) ++ y :: (W2 ++ T) := by simp
      have hz : ((P ++ W1) ++ y :: (U2 ++ (V ++ (U1 ++ (y :: (W2 ++ T))))))[(b + (i : Int)).toNat]? = some y := get_of_eq e2 (by simp; omega)
      have hs2 : ((P ++ W1) ++ y :: (U2 ++ (V ++ (U1 ++ (y :: (W2 ++ T)))))).set (b + (i : Int)).toNat x = P ++ ((W1 ++ [y]) ++ (U2 ++ (V ++ ((U1 ++ [x]) ++ (W2 ++ T))))) := (set_of_eq e2 (by simp; omega)).trans (by simp)
      repeat' (first | (refine k_op1 ?_; (first | refine o_sv rfl (by decide) ?_ | (refine k_bin ?_; (refine o_val (v_add (wi64 (by omega) (by omega))) rfl rfl (by decide) ?_)))) | (refine k_ops ?_; (first | refine o_go (by first | exact .inl rfl | exact .inr ⟨_, _, _, rfl, rfl, rfl⟩) ?_ | refine o_nil ?_)) | (refine k_run ?_; (first | refine r_seq ?_ | refine r_region ?_ | refine r_skip ?_ | refine r_block ?_ | refine r_tr ?_ | refine r_inBlock ?_ | refine r_if rfl (fun _ => ?_) (fun _ => ?_) | refine r_exit rfl ?_)) | (refine k_tr ?_; (first | (refine kt_end ?_; refine t_end mix (by kernel_rfl) ?_) | refine t_sv rfl (by first | exact rfl | exact ⟨_, rfl, rfl, rfl⟩) (by decide) ?_ | (refine kt_load ?_; (first | refine t_val (v_rloadm hx rfl rfl rfl) (by first | exact rfl | exact ⟨_, rfl, rfl, rfl⟩) rfl rfl (by decide) ?_ | refine t_val (v_rloadm hy rfl rfl rfl) (by first | exact rfl | exact ⟨_, rfl, rfl, rfl⟩) rfl rfl (by decide) ?_)) | (refine kt_index ?_; (refine t_val (v_rindex rfl (by omega) (by simp; omega) rfl) (by first | exact rfl | exact ⟨_, rfl, rfl, rfl⟩) rfl rfl (by decide) ?_)) | (refine kt_bin ?_; (refine t_val (v_add (wi64 (by omega) (by omega))) (by first | exact rfl | exact ⟨_, rfl, rfl, rfl⟩) rfl rfl (by decide) ?_)) | (refine kt_store ?_; (first | refine t_rstorem y (by first | exact rfl | exact ⟨_, rfl, rfl, rfl⟩) rfl rfl (hcu _) (hn _) hx rfl rfl rfl hs1 ?_ | refine t_rstorem x (by first | exact rfl | exact ⟨_, rfl, rfl, rfl⟩) rfl rfl (hcu _) (hn _) hz rfl rfl rfl hs2 ?_)))))
      all_goals try (exfalso; omega)
      exact r_less (ih (i + 1, (U1 ++ [x], U2), (W1 ++ [y], W2)) ⟨by rw [← hu]; simp, by rw [← hw]; simp, by simp [h1], by simp [hi]⟩ (by simp)) rfl rfl

/-- two neighbouring parts change places -/
theorem rot_st {α : Type} (u : α → D) (hcu : ∀ x, cellsOf (.d (u x)) = some [.d (u x)]) (hn : ∀ x, allD [.d (u x)] = some [u x]) (cf : FuncId) (kk sl : Nat) (P X Y T : List α) (a m b : Int) (ha : a = P.length) (hm : m = P.length + X.length) (hb : b = P.length + X.length + Y.length) (hX : 0 < X.length) (hY : 0 < Y.length) (hlen : P.length + X.length + Y.length + T.length ≤ 1000000) :
    Eff1 Try.prog 78 [.ref (0, 1000), I .i64 a, I .i64 m, I .i64 b, .fn (.func cf) [] [.ptr (kk, sl) 0]] [((0, 1000), .row 3 1 ((P ++ (X ++ (Y ++ T))).map (fun x => [u x])))] [((0, 1000), .row 3 1 ((P ++ (Y ++ (X ++ T))).map (fun x => [u x])))] (.tup []) := by
  refine eff_of fun H hH => ?_
  have hH0 := hH ((0, 1000), .row 3 1 ((P ++ (X ++ (Y ++ T))).map (fun x => [u x]))) (by simp)
  refine spec_of Try.func78 (by kernel_rfl) rfl (by simp) ?_
  dsimp only [Try.f78]
  refine r_taker 1000 0 1000 hH0 rfl rfl ?_
  repeat' (first | (refine k_op1 ?_; (first | refine o_sv rfl (by decide) ?_ | (refine k_bin ?_; (refine o_val (v_sub (wi64 (by omega) (by omega))) rfl rfl (by decide) ?_)))) | (refine k_ops ?_; (first | refine o_go (by first | exact .inl rfl | exact .inr ⟨_, _, _, rfl, rfl, rfl⟩) ?_ | refine o_nil ?_)) | (refine k_run ?_; (first | refine r_seq ?_ | refine r_region ?_ | refine r_block ?_)))
  refine r_loop ?_
  refine r_less (r_inv (fun q : Int × Int × List α × List α × List α × List α => ⟨58, [(0, .ref (0, 1000)), (2, I .i64 m), (4, .fn (.func cf) [] [.ptr (kk + 1, sl) 0]), (10, I .i64 q.1), (11, I .i64 q.2.1), (101000, .al (0, 1000) (1, 1000))],
      [(1000, .row 3 1 ((q.2.2.1 ++ (q.2.2.2.1 ++ (q.2.2.2.2.1 ++ q.2.2.2.2.2))).map (fun x => [u x])))], upd H (0, 1000) .gone⟩)
    (fun q => q.1 = q.2.2.2.1.length ∧ q.2.1 = q.2.2.2.2.1.length ∧ 0 < q.1 ∧ 0 < q.2.1 ∧ m = q.2.2.1.length + q.1 ∧ q.2.2.1 ++ (q.2.2.2.2.1 ++ (q.2.2.2.1 ++ q.2.2.2.2.2)) = P ++ (Y ++ (X ++ T)))
    (fun q => q.1.toNat + q.2.1.toNat) ?_ (m - a, b - m, P, X, Y, T) ⟨by simp only; omega, by simp only; omega, by simp only; omega, by simp only; omega, by simp only; omega, rfl⟩) rfl rfl
  intro ⟨i, j, P', X', Y', T'⟩ ⟨hi, hj, hi0, hj0, hm', he⟩ ih
  simp only at hi hj hi0 hj0 hm' he ih ⊢
  have hle := congrArg List.length he
  simp only [List.length_append] at hle
  repeat' (first | (refine k_op1 ?_; (first | refine o_sv rfl (by decide) ?_ | (refine k_bin ?_; (first | refine o_val (v_add (wi64 (by omega) (by omega))) rfl rfl (by decide) ?_ | refine o_val (v_sub (wi64 (by omega) (by omega))) rfl rfl (by decide) ?_)))) | (refine k_ops ?_; (first | refine o_go (by first | exact .inl rfl | exact .inr ⟨_, _, _, rfl, rfl, rfl⟩) ?_ | refine o_nil ?_)) | (refine k_run ?_; (first | refine r_seq ?_ | refine r_region ?_ | refine r_skip ?_ | refine r_block ?_ | refine r_if rfl (fun _ => ?_) (fun _ => ?_) | refine r_ifn rfl (fun _ => ?_) (fun _ => ?_) | refine r_exit rfl ?_)))
  · rename_i hne hgt
    obtain ⟨X1, X2, hX12, hl1⟩ : ∃ X1 X2, X' = X1 ++ X2 ∧ X1.length = j.toNat := ⟨X'.take j.toNat, X'.drop j.toNat, (List.take_append_drop _ _).symm, by rw [List.length_take]; omega⟩
    subst hX12
    simp only [List.length_append] at hi hle
    rw [show P' ++ (X1 ++ X2 ++ (Y' ++ T')) = P' ++ (X1 ++ (X2 ++ (Y' ++ T'))) by simp]
    repeat' (first | (refine k_op1 ?_; (first | refine o_sv rfl (by decide) ?_ | (refine k_bin ?_; (refine o_val (v_sub (wi64 (by omega) (by omega))) rfl rfl (by decide) ?_)) | (refine k_call ?_; (refine o_eff1 (swap_st u hcu hn cf (kk + 1) sl P' X1 X2 Y' T' (m - i) m j (by omega) (by omega) (by omega) (by omega) (by omega)) rfl rfl (by decide) ?_)))) | (refine k_ops ?_; (first | refine o_go (by first | exact .inl rfl | exact .inr ⟨_, _, _, rfl, rfl, rfl⟩) ?_ | refine o_nil ?_)) | (refine k_run ?_; (first | refine r_region ?_ | refine r_inBlock ?_)))
    all_goals try (exfalso; omega)
    rw [show P' ++ (Y' ++ (X2 ++ (X1 ++ T'))) = (P' ++ Y') ++ (X2 ++ (X1 ++ T')) by simp]
    exact r_less (ih (i - j, j, P' ++ Y', X2, X1, T') ⟨by simp only; omega, by simp only; omega, by simp only; omega, by simp only; omega, by simp only [List.length_append]; omega, by rw [← he]; simp⟩ (by simp only; omega)) rfl rfl
  · rename_i hne hgt
    obtain ⟨Y1, Y2, hY12, hl1⟩ : ∃ Y1 Y2, Y' = Y1 ++ Y2 ∧ Y2.length = i.toNat := ⟨Y'.take (j - i).toNat, Y'.drop (j - i).toNat, (List.take_append_drop _ _).symm, by rw [List.length_drop]; omega⟩
    subst hY12
    simp only [List.length_append] at hj hle
    rw [show P' ++ (X' ++ (Y1 ++ Y2 ++ T')) = P' ++ (X' ++ (Y1 ++ (Y2 ++ T'))) by simp]
    repeat' (first | (refine k_op1 ?_; (first | refine o_sv rfl (by decide) ?_ | (refine k_bin ?_; (refine o_val (v_sub (wi64 (by omega) (by omega))) rfl rfl (by decide) ?_)) | (refine k_call ?_; (refine o_eff1 (swap_st u hcu hn cf (kk + 1) sl P' X' Y1 Y2 T' (m - i) (m + j - i) i (by omega) (by omega) (by omega) (by omega) (by omega)) rfl rfl (by decide) ?_)))) | (refine k_ops ?_; (first | refine o_go (by first | exact .inl rfl | exact .inr ⟨_, _, _, rfl, rfl, rfl⟩) ?_ | refine o_nil ?_)) | (refine k_run ?_; (first | refine r_region ?_ | refine r_inBlock ?_)))
    all_goals try (exfalso; omega)
    exact r_less (ih (i, j - i, P', Y2, Y1, X' ++ T') ⟨by simp only; omega, by simp only; omega, by simp only; omega, by simp only; omega, by simp only; omega, by rw [← he]; simp⟩ (by simp only; omega)) rfl rfl
  · rename_i hne
    rw [show P' ++ (X' ++ (Y' ++ T')) = P' ++ (X' ++ ([] ++ (Y' ++ T'))) by simp]
    repeat' (first | (refine k_op1 ?_; ((refine k_call ?_; (refine o_eff1 (swap_st u hcu hn cf (kk + 1) sl P' X' [] Y' T' (m - i) m i (by omega) (by simp; omega) (by omega) (by omega) (by simp; omega)) rfl rfl (by decide) ?_)))) | (refine k_ops ?_; (refine o_nil ?_)))
    all_goals try (exfalso; omega)
    refine r_give 1000 0 1000 (raw := .row 3 1 ((P' ++ (Y' ++ ([] ++ (X' ++ T')))).map (fun x => [u x]))) rfl rfl rfl rfl rfl ?_
    refine r_end Try.func78 _ (res_none rfl) ⟨rfl, ?_⟩
    rw [← he]
    simp [updL, upd_upd]

/-- insertion sort of a part -/
theorem ins_st {α : Type} (u : α → D) (hcu : ∀ x, cellsOf (.d (u x)) = some [.d (u x)]) (hn : ∀ x, allD [.d (u x)] = some [u x]) (cf : FuncId) (kk sl : Nat) (blk : Blk) (hsl : sl ≠ 1000) (le : α → α → Bool) (c : α → α → Int) (hc : ∀ x y, le x y = !decide (c y x < 0)) (hcl : ∀ (j : Nat) (x y : α), Eff1 Try.prog cf [.d (u x), .d (u y), .ptr (j, sl) 0] [((j, sl), blk)] [] (I .i64 (c x y))) (ho : Ord le) (P M T : List α) (a b : Int) (ha : a = P.length) (hb : b = P.length + M.length) (hlen : P.length + M.length + T.length ≤ 1000000) :
    Eff1 Try.prog 65 [.ref (0, 1000), I .i64 a, I .i64 b, .fn (.func cf) [] [.ptr (kk, sl) 0]] [((0, 1000), .row 3 1 ((P ++ (M ++ T)).map (fun x => [u x]))), ((kk, sl), blk)] [((0, 1000), .row 3 1 ((P ++ (isort le M ++ T)).map (fun x => [u x])))] (.tup []) := by
  refine eff_of fun H hH => ?_
  have hH0 := hH ((0, 1000), .row 3 1 ((P ++ (M ++ T)).map (fun x => [u x]))) (by simp)
  have hH1 := hH ((kk, sl), blk) (by simp)
  have hH2 : (upd H (0, 1000) .gone) kk sl = some blk := upd_ne hH1 (by simp; intro _ h; exact hsl h)
  refine spec_of Try.func65 (by kernel_rfl) rfl (by simp) ?_
  dsimp only [Try.f65]
  refine r_taker 1000 0 1000 hH0 rfl rfl ?_
  repeat' (first | (refine k_op1 ?_; (first | refine o_sv rfl (by decide) ?_ | (refine k_bin ?_; (refine o_val (v_add (wi64 (by omega) (by omega))) rfl rfl (by decide) ?_)))) | (refine k_ops ?_; (first | refine o_go (by first | exact .inl rfl | exact .inr ⟨_, _, _, rfl, rfl, rfl⟩) ?_ | refine o_nil ?_)) | (refine k_run ?_; (first | refine r_seq ?_ | refine r_region ?_ | refine r_block ?_)))
  refine r_loop ?_
  rw [show P ++ (M ++ T) = P ++ (isort le (M.take 1) ++ (M.drop 1 ++ T)) by cases M <;> rfl]
  refine r_less (r_inv (fun q : Int × List α × List α => ⟨53, [(0, .ref (0, 1000)), (1, I .i64 a), (2, I .i64 b), (3, .fn (.func cf) [] [.ptr (kk + 1, sl) 0]), (8, I .i64 q.1), (101000, .al (0, 1000) (1, 1000))],
      [(1000, .row 3 1 ((P ++ (isort le q.2.1 ++ (q.2.2 ++ T))).map (fun x => [u x])))], upd H (0, 1000) .gone⟩)
    (fun q => q.2.1 ++ q.2.2 = M ∧ ((M = [] ∧ q.1 = a + 1) ∨ (0 < q.2.1.length ∧ q.1 = a + q.2.1.length)))
    (fun q => q.2.2.length) ?_ (a + 1, M.take 1, M.drop 1) ⟨List.take_append_drop _ _, by cases M with
      | nil => exact .inl ⟨rfl, rfl⟩
      | cons x M => exact .inr ⟨by simp, by simp⟩⟩) rfl rfl
  intro ⟨i, A, R⟩ ⟨hAR, hi⟩ ih
  simp only at hAR hi ih ⊢
  have hlA := congrArg List.length hAR
  simp only [List.length_append] at hlA
  have hil := isort_length (le := le) A
  cases R with
  | nil =>
    simp only [List.length_nil] at hlA
    have hib : ¬ i < b := by
      rcases hi with ⟨h0, h⟩ | ⟨h, h'⟩
      · have := congrArg List.length h0
        simp only [List.length_nil] at this; omega
      · omega
    repeat' (first | (refine k_op1 ?_; (refine o_sv rfl (by decide) ?_)) | (refine k_ops ?_; (first | refine o_go (by first | exact .inl rfl | exact .inr ⟨_, _, _, rfl, rfl, rfl⟩) ?_ | refine o_nil ?_)) | (refine k_run ?_; (first | refine r_seq ?_ | refine r_region ?_ | refine r_skip ?_ | refine r_block ?_ | refine r_if rfl (fun _ => ?_) (fun _ => ?_) | refine r_exit rfl ?_)))
    all_goals try (exfalso; omega)
    refine r_give 1000 0 1000 (raw := .row 3 1 ((P ++ (isort le A ++ ([] ++ T))).map (fun x => [u x]))) rfl rfl rfl rfl rfl ?_
    refine r_end Try.func65 _ (res_none rfl) ⟨rfl, ?_⟩
    rw [← hAR]
    simp [updL, upd_upd]
  | cons y R =>
    have hi2 : i = a + A.length := by
      rcases hi with ⟨rfl, h⟩ | ⟨h, h'⟩
      · simp at hAR
      · exact h'
    have hA0 : 0 < A.length := by
      rcases hi with ⟨rfl, h⟩ | ⟨h, h'⟩
      · simp at hAR
      · exact h
    simp only [List.length_cons] at hlA
    have hasc := isort_asc ho A
    repeat' (first | (refine k_op1 ?_; (refine o_sv rfl (by decide) ?_)) | (refine k_ops ?_; (first | refine o_go (by first | exact .inl rfl | exact .inr ⟨_, _, _, rfl, rfl, rfl⟩) ?_ | refine o_nil ?_)) | (refine k_run ?_; (first | refine r_seq ?_ | refine r_region ?_ | refine r_skip ?_ | refine r_block ?_ | refine r_if rfl (fun _ => ?_) (fun _ => ?_) | refine r_exit rfl ?_)))
    all_goals try (exfalso; omega)
    refine r_loop ?_
    rw [show P ++ (isort le A ++ (y :: R ++ T)) = P ++ (isort le A ++ (y :: ([] ++ (R ++ T)))) by simp]
    refine r_less (r_inv (fun q : Int × List α × List α => ⟨53, [(0, .ref (0, 1000)), (1, I .i64 a), (2, I .i64 b), (3, .fn (.func cf) [] [.ptr (kk + 1, sl) 0]), (8, I .i64 i), (9, I .i64 q.1), (101000, .al (0, 1000) (1, 1000))],
        [(1000, .row 3 1 ((P ++ (q.2.1 ++ (y :: (q.2.2 ++ (R ++ T))))).map (fun x => [u x])))], upd H (0, 1000) .gone⟩)
      (fun q => q.2.1 ++ q.2.2 = isort le A ∧ q.1 = a + q.2.1.length ∧ ∀ s ∈ q.2.2, le s y = false)
      (fun q => q.2.1.length) ?_ (i, isort le A, []) ⟨by simp, by simp only; omega, by simp⟩) rfl rfl
    intro ⟨j, S1, S2⟩ ⟨hS, hj, hS2⟩ ih2
    simp only at hS hj hS2 ih2 ⊢
    have hlS := congrArg List.length hS
    simp only [List.length_append] at hlS
    rcases Go.Ab.rev_cases S1 with rfl | ⟨S1, s, rfl⟩
    · have hja : ¬ j > a := by simp at hj; omega
      have hrow : P ++ ([] ++ (y :: (S2 ++ (R ++ T)))) = P ++ (isort le (A ++ [y]) ++ (R ++ T)) := by
        rw [isort_snoc, ← hS, insR_mid y [] S2 (by simp) hS2]; simp
      rw [hrow]
      repeat' (first | (refine k_op1 ?_; (first | refine o_sv rfl (by decide) ?_ | (refine k_bin ?_; (refine o_val (v_add (wi64 (by omega) (by omega))) rfl rfl (by decide) ?_)))) | (refine k_ops ?_; (first | refine o_go (by first | exact .inl rfl | exact .inr ⟨_, _, _, rfl, rfl, rfl⟩) ?_ | refine o_nil ?_)) | (refine k_run ?_; (first | refine r_seq ?_ | refine r_region ?_ | refine r_false rfl ?_ | refine r_tr ?_ | refine r_inBlock ?_ | refine r_exit rfl ?_)) | (refine k_tr ?_; (first | (refine kt_end ?_; refine t_end mix (by kernel_rfl) ?_) | refine t_pass rfl rfl (by decide) ?_ | refine t_sv rfl (by first | exact rfl | exact ⟨_, rfl, rfl, rfl⟩) (by decide) ?_ | (refine t_either rfl rfl (fun hg => ?_) (fun hg => ?_) <;> simp only [hg] <;> (try simp only [decide_eq_true_eq, decide_eq_false_iff_not, Bool.not_eq_true', Bool.not_eq_false'] at hg)))))
      all_goals try (exfalso; omega)
      exact r_less (ih (i + 1, A ++ [y], R) ⟨by simp [hAR], .inr ⟨by simp, by simp only [List.length_append, List.length_cons, List.length_nil]; omega⟩⟩ (by simp)) rfl rfl
    · simp only [List.length_append, List.length_cons, List.length_nil] at hj hlS
      have e0 : P ++ (S1 ++ [s] ++ (y :: (S2 ++ (R ++ T)))) = (P ++ (S1 ++ [s])) ++ y :: (S2 ++ (R ++ T)) := by simp
      have e1 : P ++ (S1 ++ [s] ++ (y :: (S2 ++ (R ++ T)))) = (P ++ S1) ++ s :: (y :: (S2 ++ (R ++ T))) := by simp
      have hy : (P ++ (S1 ++ [s] ++ (y :: (S2 ++ (R ++ T)))))[j.toNat]? = some y := get_of_eq e0 (by simp; omega)
      have hs : (P ++ (S1 ++ [s] ++ (y :: (S2 ++ (R ++ T)))))[(j - 1).toNat]? = some s := get_of_eq e1 (by simp; omega)
      have hs1 : (P ++ (S1 ++ [s] ++ (y :: (S2 ++ (R ++ T))))).set j.toNat s = (P ++ S1) ++ s :: (s :: (S2 ++ (R ++ T))) := (set_of_eq e0 (by simp; omega)).trans (by simp)
      have hz : ((P ++ S1) ++ s :: (s :: (S2 ++ (R ++ T))))[(j - 1).toNat]? = some s := get_of_eq rfl (by simp; omega)
      have hs2 : ((P ++ S1) ++ s :: (s :: (S2 ++ (R ++ T)))).set (j - 1).toNat y = P ++ (S1 ++ (y :: (s :: S2 ++ (R ++ T)))) := (set_of_eq rfl (by simp; omega)).trans (by simp)
      repeat' (first | (refine k_op1 ?_; (first | refine o_sv rfl (by decide) ?_ | (refine k_bin ?_; (first | refine o_val (v_add (wi64 (by omega) (by omega))) rfl rfl (by decide) ?_ | refine o_val (v_sub (wi64 (by omega) (by omega))) rfl rfl (by decide) ?_)))) | (refine k_ops ?_; (first | refine o_go (by first | exact .inl rfl | exact .inr ⟨_, _, _, rfl, rfl, rfl⟩) ?_ | refine o_nil ?_)) | (refine k_run ?_; (first | refine r_seq ?_ | refine r_region ?_ | refine r_false rfl ?_ | refine r_skip ?_ | refine r_block ?_ | refine r_tr ?_ | refine r_inBlock ?_ | refine r_if rfl (fun _ => ?_) (fun _ => ?_) | refine r_exit rfl ?_)) | (refine k_tr ?_; (first | (refine kt_end ?_; refine t_end mix (by kernel_rfl) ?_) | refine t_pass rfl rfl (by decide) ?_ | refine t_sv rfl (by first | exact rfl | exact ⟨_, rfl, rfl, rfl⟩) (by decide) ?_ | (refine kt_load ?_; (first | refine t_val (v_rloadm hy rfl rfl rfl) (by first | exact rfl | exact ⟨_, rfl, rfl, rfl⟩) rfl rfl (by decide) ?_ | refine t_val (v_rloadm hs rfl rfl rfl) (by first | exact rfl | exact ⟨_, rfl, rfl, rfl⟩) rfl rfl (by decide) ?_)) | (refine kt_index ?_; (refine t_val (v_rindex rfl (by omega) (by simp; omega) rfl) (by first | exact rfl | exact ⟨_, rfl, rfl, rfl⟩) rfl rfl (by decide) ?_)) | (refine kt_bin ?_; (refine t_val (v_sub (wi64 (by omega) (by omega))) (by first | exact rfl | exact ⟨_, rfl, rfl, rfl⟩) rfl rfl (by decide) ?_)) | (refine kt_call ?_; (refine t_fnv (first := []) (cap := [.ptr (kk + 1, sl) 0]) (ps := [.d (u y), .d (u s)]) (bs := [((kk + 1, sl), blk)]) (hcl (kk + 1) y s) (by first | exact rfl | exact ⟨_, rfl, rfl, rfl⟩) rfl rfl (bk1 hH2) (by decide) ?_)) | (refine kt_store ?_; (first | refine t_rstorem s (by first | exact rfl | exact ⟨_, rfl, rfl, rfl⟩) rfl rfl (hcu _) (hn _) hy rfl rfl rfl hs1 ?_ | refine t_rstorem y (by first | exact rfl | exact ⟨_, rfl, rfl, rfl⟩) rfl rfl (hcu _) (hn _) hz rfl rfl rfl hs2 ?_)) | (refine t_either rfl rfl (fun hg => ?_) (fun hg => ?_) <;> simp only [hg] <;> (try simp only [decide_eq_true_eq, decide_eq_false_iff_not, Bool.not_eq_true', Bool.not_eq_false'] at hg)))))
      all_goals try (exfalso; omega)
      · have hsy : le s y = false := by rw [hc]; simp; omega
        exact r_less (ih2 (j - 1, S1, s :: S2) ⟨by rw [← hS]; simp, by simp only; omega, by simpa [hsy] using hS2⟩ (by simp)) rfl rfl
      · have hsy : le s y = true := by rw [hc]; simp; omega
        have hall : ∀ q ∈ S1 ++ [s], le q y = true := by
          intro q hq
          rw [← hS, Asc, List.pairwise_append] at hasc
          simp only [List.mem_append, List.mem_singleton] at hq
          rcases hq with hq | rfl
          · have := (List.pairwise_append.1 hasc.1).2.2 q hq s (by simp)
            exact ho.trans _ _ _ this hsy
          · exact hsy
        have hrow : P ++ (S1 ++ [s] ++ (y :: (S2 ++ (R ++ T)))) = P ++ (isort le (A ++ [y]) ++ (R ++ T)) := by
          rw [isort_snoc, ← hS, insR_mid y (S1 ++ [s]) S2 hall hS2]; simp
        rw [hrow]
        exact r_less (ih (i + 1, A ++ [y], R) ⟨by simp [hAR], .inr ⟨by simp, by simp only [List.length_append, List.length_cons, List.length_nil]; omega⟩⟩ (by simp)) rfl rfl

theorem sym_st {α : Type} (u : α → D) (hcu : ∀ x, cellsOf (.d (u x)) = some [.d (u x)]) (hn : ∀ x, allD [.d (u x)] = some [u x]) (cf : FuncId) (sl : Nat) (blk : Blk) (hsl : sl ≠ 1000) (le : α → α → Bool) (c : α → α → Int) (hc : ∀ x y, le x y = !decide (c y x < 0)) (hcl : ∀ (j : Nat) (x y : α), Eff1 Try.prog cf [.d (u x), .d (u y), .ptr (j, sl) 0] [((j, sl), blk)] [] (I .i64 (c x y))) (ho : Ord le) : ∀ (N : Nat) (kk : Nat) (P X Y T : List α) (a m b : Int), a = P.length → m = P.length + X.length → b = P.length + X.length + Y.length → X.length + Y.length ≤ N → 0 < X.length → 0 < Y.length → Asc le X → Asc le Y → P.length + X.length + Y.length + T.length ≤ 1000000 →
    Eff1 Try.prog 66 [.ref (0, 1000), I .i64 a, I .i64 m, I .i64 b, .fn (.func cf) [] [.ptr (kk, sl) 0]] [((0, 1000), .row 3 1 ((P ++ (X ++ (Y ++ T))).map (fun x => [u x]))), ((kk, sl), blk)] [((0, 1000), .row 3 1 ((P ++ (mrg le X Y ++ T)).map (fun x => [u x])))] (.tup []) := by
  intro N
  induction N with
  | zero => intros; omega
  | succ N IH =>
  intro kk P X Y T a m b ha hm hb hN hX0 hY0 hX hY hlen
  refine eff_of fun H hH => ?_
  have hH0 := hH ((0, 1000), .row 3 1 ((P ++ (X ++ (Y ++ T))).map (fun x => [u x]))) (by simp)
  have hH1 := hH ((kk, sl), blk) (by simp)
  have hH2 : (upd H (0, 1000) .gone) kk sl = some blk := upd_ne hH1 (by simp; intro _ h; exact hsl h)
  refine spec_of Try.func66 (by kernel_rfl) rfl (by simp) ?_
  dsimp only [Try.f66]
  refine r_taker 1000 0 1000 hH0 rfl rfl ?_
  by_cases hx1 : X.length = 1
  · obtain ⟨x, rfl⟩ := one_of hx1
    simp only [List.length_cons, List.length_nil] at hm hb hN hlen
    repeat' (first | (refine k_op1 ?_; (first | refine o_sv rfl (by decide) ?_ | (refine k_bin ?_; (first | refine o_val (v_add (wi64 (by omega) (by omega))) rfl rfl (by decide) ?_ | refine o_val (v_sub (wi64 (by omega) (by omega))) rfl rfl (by decide) ?_ | refine o_val (v_half (by omega)) rfl rfl (by decide) ?_)) | (refine k_conv ?_; (first | refine o_val (v_conv rfl rfl (wu64 (by omega) (by omega))) rfl rfl (by decide) ?_ | refine o_val (v_conv rfl rfl (wi64 (by omega) (by omega))) rfl rfl (by decide) ?_)))) | (refine k_ops ?_; (first | refine o_go (by first | exact .inl rfl | exact .inr ⟨_, _, _, rfl, rfl, rfl⟩) ?_ | refine o_nil ?_)) | (refine k_run ?_; (first | refine r_seq ?_ | refine r_region ?_ | refine r_skip ?_ | refine r_block ?_ | refine r_if rfl (fun _ => ?_) (fun _ => ?_))))
    all_goals try (exfalso; omega)
    refine r_loop ?_
    refine r_less (r_inv (fun q : Int × Int => ⟨220, [(0, .ref (0, 1000)), (1, I .i64 a), (2, I .i64 m), (3, I .i64 b), (4, .fn (.func cf) [] [.ptr (kk + 1, sl) 0]), (101000, .al (0, 1000) (1, 1000)), (10, I .i64 q.1), (11, I .i64 q.2)], [(1000, .row 3 1 ((P ++ ([x] ++ (Y ++ T))).map (fun x => [u x])))], upd H (0, 1000) .gone⟩)
      (fun q => m ≤ q.1 ∧ q.1 ≤ q.2 ∧ q.2 ≤ b ∧ (∀ (j : Nat) y, Y[j]? = some y → m + j < q.1 → le x y = false) ∧ (∀ (j : Nat) y, Y[j]? = some y → q.2 ≤ m + j → le x y = true))
      (fun q => (q.2 - q.1).toNat) ?_ (m, b) ⟨by simp only; omega, by simp only; omega, by simp only; omega, fun j y _ h => by simp only at h; omega, fun j y h h' => by have := (List.getElem?_eq_some_iff.1 h).1; simp only at h'; omega⟩) rfl rfl
    intro ⟨lo, hi⟩ ⟨h1, h2, h3, h4, h5⟩ ih
    simp only at h1 h2 h3 h4 h5 ih ⊢
    by_cases hlt : lo < hi
    · obtain ⟨y, hy⟩ : ∃ y, Y[((lo + hi) / 2 - m).toNat]? = some y := ⟨_, List.getElem?_eq_getElem (by omega)⟩
      have hyq : (P ++ ([x] ++ (Y ++ T)))[((lo + hi) / 2).toNat]? = some y := get_right (j := ((lo + hi) / 2 - P.length).toNat) (by omega) (get_right (j := ((lo + hi) / 2 - m).toNat) (by simp; omega) (get_left hy))
      have hxq : (P ++ ([x] ++ (Y ++ T)))[a.toNat]? = some x := get_of_eq (by simp; rfl) (by omega)
      repeat' (first | (refine k_op1 ?_; (first | refine o_sv rfl (by decide) ?_ | (refine k_bin ?_; (first | refine o_val (v_add (wi64 (by omega) (by omega))) rfl rfl (by decide) ?_ | refine o_val (v_half (by omega)) rfl rfl (by decide) ?_)) | (refine k_conv ?_; (first | refine o_val (v_conv rfl rfl (wu64 (by omega) (by omega))) rfl rfl (by decide) ?_ | refine o_val (v_conv rfl rfl (wi64 (by omega) (by omega))) rfl rfl (by decide) ?_)))) | (refine k_ops ?_; (first | refine o_go (by first | exact .inl rfl | exact .inr ⟨_, _, _, rfl, rfl, rfl⟩) ?_ | refine o_nil ?_)) | (refine k_run ?_; (first | refine r_seq ?_ | refine r_region ?_ | refine r_skip ?_ | refine r_block ?_ | refine r_tr ?_ | refine r_inBlock ?_ | refine r_if rfl (fun _ => ?_) (fun _ => ?_) | refine r_exit rfl ?_)) | (refine k_tr ?_; (first | (refine kt_end ?_; refine t_end mix (by kernel_rfl) ?_) | refine t_sv rfl (by first | exact rfl | exact ⟨_, rfl, rfl, rfl⟩) (by decide) ?_ | (refine kt_load ?_; (first | refine t_val (v_rloadm hyq rfl rfl rfl) (by first | exact rfl | exact ⟨_, rfl, rfl, rfl⟩) rfl rfl (by decide) ?_ | refine t_val (v_rloadm hxq rfl rfl rfl) (by first | exact rfl | exact ⟨_, rfl, rfl, rfl⟩) rfl rfl (by decide) ?_)) | (refine kt_index ?_; (refine t_val (v_rindex rfl (by omega) (by simp; omega) rfl) (by first | exact rfl | exact ⟨_, rfl, rfl, rfl⟩) rfl rfl (by decide) ?_)) | (refine kt_call ?_; (refine t_fnv (first := []) (cap := [.ptr (kk + 1, sl) 0]) (ps := [.d (u y), .d (u x)]) (bs := [((kk + 1, sl), blk)]) (hcl (kk + 1) y x) (by first | exact rfl | exact ⟨_, rfl, rfl, rfl⟩) rfl rfl (bk1 hH2) (by decide) ?_)))))
      all_goals try (exfalso; omega)
      · have hxy : le x y = false := by rw [hc]; simp; omega
        refine r_less (ih ((lo + hi) / 2 + 1, hi) ⟨by simp only; omega, by simp only; omega, h3, fun j u hj hlt' => ?_, h5⟩ (by simp only; omega)) rfl rfl
        simp only at hlt'
        cases hxu : le x u with
        | false => rfl
        | true => rw [ho.trans _ _ _ hxu (asc_get ho hY (by omega) hj hy)] at hxy; cases hxy
      · have hxy : le x y = true := by rw [hc]; simp; omega
        refine r_less (ih (lo, (lo + hi) / 2) ⟨h1, by simp only; omega, by simp only; omega, h4, fun j u hj hlt' => ?_⟩ (by simp only; omega)) rfl rfl
        simp only at hlt'
        exact ho.trans _ _ _ hxy (asc_get ho hY (by omega) hy hj)
    · have : lo = hi := by omega
      subst this
      obtain ⟨Y1, Y2, rfl, hl1⟩ := cut_at Y (lo - m).toNat (by omega)
      simp only [List.length_append] at hb hlen hN
      have hY1 : ∀ y ∈ Y1, le x y = false := fun y hy => by
        obtain ⟨q, hq, hg'⟩ := mem_app_left (B := Y2) hy
        exact h4 q y hg' (by omega)
      have hY2 : ∀ y ∈ Y2, le x y = true := fun y hy => by
        obtain ⟨q, hq, hg'⟩ := mem_app_right (A := Y1) hy
        exact h5 q y hg' (by omega)
      repeat' (first | (refine k_op1 ?_; (first | refine o_sv rfl (by decide) ?_ | (refine k_bin ?_; (first | refine o_val (v_add (wi64 (by omega) (by omega))) rfl rfl (by decide) ?_ | refine o_val (v_half (by omega)) rfl rfl (by decide) ?_)) | (refine k_conv ?_; (first | refine o_val (v_conv rfl rfl (wu64 (by omega) (by omega))) rfl rfl (by decide) ?_ | refine o_val (v_conv rfl rfl (wi64 (by omega) (by omega))) rfl rfl (by decide) ?_)))) | (refine k_ops ?_; (first | refine o_go (by first | exact .inl rfl | exact .inr ⟨_, _, _, rfl, rfl, rfl⟩) ?_ | refine o_nil ?_)) | (refine k_run ?_; (first | refine r_seq ?_ | refine r_region ?_ | refine r_skip ?_ | refine r_block ?_ | refine r_tr ?_ | refine r_if rfl (fun _ => ?_) (fun _ => ?_) | refine r_exit rfl ?_)) | (refine k_tr ?_; (refine t_sv rfl (by first | exact rfl | exact ⟨_, rfl, rfl, rfl⟩) (by decide) ?_)))
      all_goals try (exfalso; omega)
      refine r_loop ?_
      rw [show P ++ ([x] ++ (Y1 ++ Y2 ++ T)) = P ++ ([] ++ (x :: (Y1 ++ (Y2 ++ T)))) by simp]
      refine r_less (r_inv (fun q : Int × List α × List α => ⟨220, [(0, .ref (0, 1000)), (1, I .i64 a), (2, I .i64 m), (3, I .i64 b), (4, .fn (.func cf) [] [.ptr (kk + 1, sl) 0]), (101000, .al (0, 1000) (1, 1000)), (10, I .i64 lo), (13, I .i64 q.1)], [(1000, .row 3 1 ((P ++ (q.2.1 ++ (x :: (q.2.2 ++ (Y2 ++ T))))).map (fun x => [u x])))], upd H (0, 1000) .gone⟩)
        (fun q => q.2.1 ++ q.2.2 = Y1 ∧ q.1 = a + q.2.1.length) (fun q => q.2.2.length) ?_ (a, [], Y1) ⟨rfl, by simp⟩) rfl rfl
      intro ⟨k, Ya, Yb⟩ ⟨hab, hk⟩ ih2
      simp only at hab hk ih2 ⊢
      have hlab := congrArg List.length hab
      simp only [List.length_append] at hlab
      cases Yb with
      | nil =>
        simp only [List.length_nil] at hlab
        repeat' (first | (refine k_op1 ?_; (first | refine o_sv rfl (by decide) ?_ | (refine k_bin ?_; (refine o_val (v_sub (wi64 (by omega) (by omega))) rfl rfl (by decide) ?_)))) | (refine k_ops ?_; (first | refine o_go (by first | exact .inl rfl | exact .inr ⟨_, _, _, rfl, rfl, rfl⟩) ?_ | refine o_nil ?_)) | (refine k_run ?_; (first | refine r_seq ?_ | refine r_region ?_ | refine r_skip ?_ | refine r_block ?_ | refine r_tr ?_ | refine r_if rfl (fun _ => ?_) (fun _ => ?_) | refine r_exit rfl ?_)) | (refine k_tr ?_; (first | refine t_sv rfl (by first | exact rfl | exact ⟨_, rfl, rfl, rfl⟩) (by decide) ?_ | (refine kt_bin ?_; (refine t_val (v_add (wi64 (by omega) (by omega))) (by first | exact rfl | exact ⟨_, rfl, rfl, rfl⟩) rfl rfl (by decide) ?_)))))
        all_goals try (exfalso; omega)
        refine r_giver 1000 0 1000 rfl rfl rfl ?_
        refine r_ret Try.func66 _ (res_none rfl) ⟨rfl, ?_⟩
        rw [updL_one, upd_upd, one_mrg x Y1 Y2 hY1 hY2, ← hab]
        simp
      | cons y Yb =>
        simp only [List.length_cons] at hlab
        have e0 : P ++ (Ya ++ (x :: (y :: Yb ++ (Y2 ++ T)))) = (P ++ Ya) ++ x :: (y :: Yb ++ (Y2 ++ T)) := by simp
        have e1 : P ++ (Ya ++ (x :: (y :: Yb ++ (Y2 ++ T)))) = (P ++ Ya ++ [x]) ++ y :: (Yb ++ (Y2 ++ T)) := by simp
        have hxk : (P ++ (Ya ++ (x :: (y :: Yb ++ (Y2 ++ T)))))[k.toNat]? = some x := get_of_eq e0 (by simp; omega)
        have hyk : (P ++ (Ya ++ (x :: (y :: Yb ++ (Y2 ++ T)))))[(k + 1).toNat]? = some y := get_of_eq e1 (by simp; omega)
        have hs1 : (P ++ (Ya ++ (x :: (y :: Yb ++ (Y2 ++ T))))).set k.toNat y = (P ++ Ya ++ [y]) ++ y :: (Yb ++ (Y2 ++ T)) := (set_of_eq e0 (by simp; omega)).trans (by simp)
        have hz : ((P ++ Ya ++ [y]) ++ y :: (Yb ++ (Y2 ++ T)))[(k + 1).toNat]? = some y := get_of_eq rfl (by simp; omega)
        have hs2 : ((P ++ Ya ++ [y]) ++ y :: (Yb ++ (Y2 ++ T))).set (k + 1).toNat x = P ++ ((Ya ++ [y]) ++ (x :: (Yb ++ (Y2 ++ T)))) := (set_of_eq rfl (by simp; omega)).trans (by simp)
        repeat' (first | (refine k_op1 ?_; (first | refine o_sv rfl (by decide) ?_ | (refine k_bin ?_; (first | refine o_val (v_add (wi64 (by omega) (by omega))) rfl rfl (by decide) ?_ | refine o_val (v_sub (wi64 (by omega) (by omega))) rfl rfl (by decide) ?_)))) | (refine k_ops ?_; (first | refine o_go (by first | exact .inl rfl | exact .inr ⟨_, _, _, rfl, rfl, rfl⟩) ?_ | refine o_nil ?_)) | (refine k_run ?_; (first | refine r_seq ?_ | refine r_region ?_ | refine r_skip ?_ | refine r_block ?_ | refine r_tr ?_ | refine r_inBlock ?_ | refine r_if rfl (fun _ => ?_) (fun _ => ?_) | refine r_exit rfl ?_)) | (refine k_tr ?_; (first | (refine kt_end ?_; refine t_end mix (by kernel_rfl) ?_) | refine t_sv rfl (by first | exact rfl | exact ⟨_, rfl, rfl, rfl⟩) (by decide) ?_ | (refine kt_load ?_; (first | refine t_val (v_rloadm hxk rfl rfl rfl) (by first | exact rfl | exact ⟨_, rfl, rfl, rfl⟩) rfl rfl (by decide) ?_ | refine t_val (v_rloadm hyk rfl rfl rfl) (by first | exact rfl | exact ⟨_, rfl, rfl, rfl⟩) rfl rfl (by decide) ?_)) | (refine kt_index ?_; (refine t_val (v_rindex rfl (by omega) (by simp; omega) rfl) (by first | exact rfl | exact ⟨_, rfl, rfl, rfl⟩) rfl rfl (by decide) ?_)) | (refine kt_bin ?_; (refine t_val (v_add (wi64 (by omega) (by omega))) (by first | exact rfl | exact ⟨_, rfl, rfl, rfl⟩) rfl rfl (by decide) ?_)) | (refine kt_store ?_; (first | refine t_rstorem y (by first | exact rfl | exact ⟨_, rfl, rfl, rfl⟩) rfl rfl (hcu _) (hn _) hxk rfl rfl rfl hs1 ?_ | refine t_rstorem x (by first | exact rfl | exact ⟨_, rfl, rfl, rfl⟩) rfl rfl (hcu _) (hn _) hz rfl rfl rfl hs2 ?_)))))
        all_goals try (exfalso; omega)
        exact r_less (ih2 (k + 1, Ya ++ [y], Yb) ⟨by rw [← hab]; simp, by simp only [List.length_append, List.length_cons, List.length_nil]; omega⟩ (by simp)) rfl rfl
  by_cases hy1 : Y.length = 1
  · obtain ⟨y, rfl⟩ := one_of hy1
    simp only [List.length_cons, List.length_nil] at hb hN hlen
    repeat' (first | (refine k_op1 ?_; (first | refine o_sv rfl (by decide) ?_ | (refine k_bin ?_; (first | refine o_val (v_add (wi64 (by omega) (by omega))) rfl rfl (by decide) ?_ | refine o_val (v_sub (wi64 (by omega) (by omega))) rfl rfl (by decide) ?_ | refine o_val (v_half (by omega)) rfl rfl (by decide) ?_)) | (refine k_conv ?_; (first | refine o_val (v_conv rfl rfl (wu64 (by omega) (by omega))) rfl rfl (by decide) ?_ | refine o_val (v_conv rfl rfl (wi64 (by omega) (by omega))) rfl rfl (by decide) ?_)))) | (refine k_ops ?_; (first | refine o_go (by first | exact .inl rfl | exact .inr ⟨_, _, _, rfl, rfl, rfl⟩) ?_ | refine o_nil ?_)) | (refine k_run ?_; (first | refine r_seq ?_ | refine r_region ?_ | refine r_skip ?_ | refine r_block ?_ | refine r_if rfl (fun _ => ?_) (fun _ => ?_))))
    all_goals try (exfalso; omega)
    refine r_loop ?_
    refine r_less (r_inv (fun q : Int × Int => ⟨220, [(0, .ref (0, 1000)), (1, I .i64 a), (2, I .i64 m), (3, I .i64 b), (4, .fn (.func cf) [] [.ptr (kk + 1, sl) 0]), (101000, .al (0, 1000) (1, 1000)), (14, I .i64 q.1), (15, I .i64 q.2)], [(1000, .row 3 1 ((P ++ (X ++ ([y] ++ T))).map (fun x => [u x])))], upd H (0, 1000) .gone⟩)
      (fun q => a ≤ q.1 ∧ q.1 ≤ q.2 ∧ q.2 ≤ m ∧ (∀ (j : Nat) x, X[j]? = some x → a + j < q.1 → le x y = true) ∧ (∀ (j : Nat) x, X[j]? = some x → q.2 ≤ a + j → le x y = false))
      (fun q => (q.2 - q.1).toNat) ?_ (a, m) ⟨by simp only; omega, by simp only; omega, by simp only; omega, fun j y _ h => by simp only at h; omega, fun j y h h' => by have := (List.getElem?_eq_some_iff.1 h).1; simp only at h'; omega⟩) rfl rfl
    intro ⟨lo, hi⟩ ⟨h1, h2, h3, h4, h5⟩ ih
    simp only at h1 h2 h3 h4 h5 ih ⊢
    by_cases hlt : lo < hi
    · obtain ⟨x, hx⟩ : ∃ x, X[((lo + hi) / 2 - a).toNat]? = some x := ⟨_, List.getElem?_eq_getElem (by omega)⟩
      have hxq : (P ++ (X ++ ([y] ++ T)))[((lo + hi) / 2).toNat]? = some x := get_right (j := ((lo + hi) / 2 - a).toNat) (by omega) (get_left hx)
      have hyq : (P ++ (X ++ ([y] ++ T)))[m.toNat]? = some y := get_of_eq (A := P ++ X) (B := T) (by simp) (by simp; omega)
      repeat' (first | (refine k_op1 ?_; (first | refine o_sv rfl (by decide) ?_ | (refine k_bin ?_; (first | refine o_val (v_add (wi64 (by omega) (by omega))) rfl rfl (by decide) ?_ | refine o_val (v_half (by omega)) rfl rfl (by decide) ?_)) | (refine k_conv ?_; (first | refine o_val (v_conv rfl rfl (wu64 (by omega) (by omega))) rfl rfl (by decide) ?_ | refine o_val (v_conv rfl rfl (wi64 (by omega) (by omega))) rfl rfl (by decide) ?_)))) | (refine k_ops ?_; (first | refine o_go (by first | exact .inl rfl | exact .inr ⟨_, _, _, rfl, rfl, rfl⟩) ?_ | refine o_nil ?_)) | (refine k_run ?_; (first | refine r_seq ?_ | refine r_region ?_ | refine r_skip ?_ | refine r_block ?_ | refine r_tr ?_ | refine r_inBlock ?_ | refine r_if rfl (fun _ => ?_) (fun _ => ?_) | refine r_ifn rfl (fun _ => ?_) (fun _ => ?_) | refine r_exit rfl ?_)) | (refine k_tr ?_; (first | (refine kt_end ?_; refine t_end mix (by kernel_rfl) ?_) | refine t_sv rfl (by first | exact rfl | exact ⟨_, rfl, rfl, rfl⟩) (by decide) ?_ | (refine kt_load ?_; (first | refine t_val (v_rloadm hyq rfl rfl rfl) (by first | exact rfl | exact ⟨_, rfl, rfl, rfl⟩) rfl rfl (by decide) ?_ | refine t_val (v_rloadm hxq rfl rfl rfl) (by first | exact rfl | exact ⟨_, rfl, rfl, rfl⟩) rfl rfl (by decide) ?_)) | (refine kt_index ?_; (refine t_val (v_rindex rfl (by omega) (by simp; omega) rfl) (by first | exact rfl | exact ⟨_, rfl, rfl, rfl⟩) rfl rfl (by decide) ?_)) | (refine kt_call ?_; (refine t_fnv (first := []) (cap := [.ptr (kk + 1, sl) 0]) (ps := [.d (u y), .d (u x)]) (bs := [((kk + 1, sl), blk)]) (hcl (kk + 1) y x) (by first | exact rfl | exact ⟨_, rfl, rfl, rfl⟩) rfl rfl (bk1 hH2) (by decide) ?_)))))
      all_goals try (exfalso; omega)
      · have hxy : le x y = true := by rw [hc]; simp; omega
        refine r_less (ih ((lo + hi) / 2 + 1, hi) ⟨by simp only; omega, by simp only; omega, h3, fun j u hj hlt' => ?_, h5⟩ (by simp only; omega)) rfl rfl
        simp only at hlt'
        exact ho.trans _ _ _ (asc_get ho hX (by omega) hj hx) hxy
      · have hxy : le x y = false := by rw [hc]; simp; omega
        refine r_less (ih (lo, (lo + hi) / 2) ⟨h1, by simp only; omega, by simp only; omega, h4, fun j u hj hlt' => ?_⟩ (by simp only; omega)) rfl rfl
        simp only at hlt'
        cases huy : le u y with
        | false => rfl
        | true => rw [ho.trans _ _ _ (asc_get ho hX (by omega) hx hj) huy] at hxy; cases hxy
    · have : lo = hi := by omega
      subst this
      obtain ⟨X1, X2, rfl, hl1⟩ := cut_at X (lo - a).toNat (by omega)
      simp only [List.length_append] at hm hb hlen hN
      have hX1 : ∀ x ∈ X1, le x y = true := fun x hx => by
        obtain ⟨q, hq, hg'⟩ := mem_app_left (B := X2) hx
        exact h4 q x hg' (by omega)
      have hX2 : ∀ x ∈ X2, le x y = false := fun x hx => by
        obtain ⟨q, hq, hg'⟩ := mem_app_right (A := X1) hx
        exact h5 q x hg' (by omega)
      repeat' (first | (refine k_op1 ?_; (first | refine o_sv rfl (by decide) ?_ | (refine k_bin ?_; (first | refine o_val (v_add (wi64 (by omega) (by omega))) rfl rfl (by decide) ?_ | refine o_val (v_half (by omega)) rfl rfl (by decide) ?_)) | (refine k_conv ?_; (first | refine o_val (v_conv rfl rfl (wu64 (by omega) (by omega))) rfl rfl (by decide) ?_ | refine o_val (v_conv rfl rfl (wi64 (by omega) (by omega))) rfl rfl (by decide) ?_)))) | (refine k_ops ?_; (first | refine o_go (by first | exact .inl rfl | exact .inr ⟨_, _, _, rfl, rfl, rfl⟩) ?_ | refine o_nil ?_)) | (refine k_run ?_; (first | refine r_seq ?_ | refine r_region ?_ | refine r_skip ?_ | refine r_block ?_ | refine r_tr ?_ | refine r_if rfl (fun _ => ?_) (fun _ => ?_) | refine r_exit rfl ?_)) | (refine k_tr ?_; (refine t_sv rfl (by first | exact rfl | exact ⟨_, rfl, rfl, rfl⟩) (by decide) ?_)))
      all_goals try (exfalso; omega)
      refine r_loop ?_
      rw [show P ++ (X1 ++ X2 ++ ([y] ++ T)) = P ++ (X1 ++ (X2 ++ (y :: ([] ++ T)))) by simp]
      refine r_less (r_inv (fun q : Int × List α × List α => ⟨220, [(0, .ref (0, 1000)), (1, I .i64 a), (2, I .i64 m), (3, I .i64 b), (4, .fn (.func cf) [] [.ptr (kk + 1, sl) 0]), (101000, .al (0, 1000) (1, 1000)), (14, I .i64 lo), (17, I .i64 q.1)], [(1000, .row 3 1 ((P ++ (X1 ++ (q.2.1 ++ (y :: (q.2.2 ++ T))))).map (fun x => [u x])))], upd H (0, 1000) .gone⟩)
        (fun q => q.2.1 ++ q.2.2 = X2 ∧ q.1 = lo + q.2.1.length) (fun q => q.2.1.length) ?_ (m, X2, []) ⟨by simp, by simp only; omega⟩) rfl rfl
      intro ⟨k, Xa, Xb⟩ ⟨hab, hk⟩ ih2
      simp only at hab hk ih2 ⊢
      have hlab := congrArg List.length hab
      simp only [List.length_append] at hlab
      rcases snoc_cases Xa with rfl | ⟨Xa, x, rfl⟩
      · simp only [List.length_nil] at hlab hk
        repeat' (first | (refine k_op1 ?_; (refine o_sv rfl (by decide) ?_)) | (refine k_ops ?_; (first | refine o_go (by first | exact .inl rfl | exact .inr ⟨_, _, _, rfl, rfl, rfl⟩) ?_ | refine o_nil ?_)) | (refine k_run ?_; (first | refine r_seq ?_ | refine r_region ?_ | refine r_skip ?_ | refine r_block ?_ | refine r_tr ?_ | refine r_if rfl (fun _ => ?_) (fun _ => ?_) | refine r_exit rfl ?_)) | (refine k_tr ?_; (first | refine t_sv rfl (by first | exact rfl | exact ⟨_, rfl, rfl, rfl⟩) (by decide) ?_ | (refine kt_bin ?_; (refine t_val (v_sub (wi64 (by omega) (by omega))) (by first | exact rfl | exact ⟨_, rfl, rfl, rfl⟩) rfl rfl (by decide) ?_)))))
        all_goals try (exfalso; omega)
        refine r_giver 1000 0 1000 rfl rfl rfl ?_
        refine r_ret Try.func66 _ (res_none rfl) ⟨rfl, ?_⟩
        rw [updL_one, upd_upd, mrg_one, insR_mid y X1 X2 hX1 hX2, ← hab]
        simp
      · simp only [List.length_append, List.length_cons, List.length_nil] at hlab hk
        have e0 : P ++ (X1 ++ (Xa ++ [x] ++ (y :: (Xb ++ T)))) = (P ++ (X1 ++ (Xa ++ [x]))) ++ y :: (Xb ++ T) := by simp
        have e1 : P ++ (X1 ++ (Xa ++ [x] ++ (y :: (Xb ++ T)))) = (P ++ (X1 ++ Xa)) ++ x :: (y :: (Xb ++ T)) := by simp
        have hyk : (P ++ (X1 ++ (Xa ++ [x] ++ (y :: (Xb ++ T)))))[k.toNat]? = some y := get_of_eq e0 (by simp; omega)
        have hxk : (P ++ (X1 ++ (Xa ++ [x] ++ (y :: (Xb ++ T)))))[(k - 1).toNat]? = some x := get_of_eq e1 (by simp; omega)
        have hs1 : (P ++ (X1 ++ (Xa ++ [x] ++ (y :: (Xb ++ T))))).set k.toNat x = (P ++ (X1 ++ Xa)) ++ x :: (x :: (Xb ++ T)) := (set_of_eq e0 (by simp; omega)).trans (by simp)
        have hz : ((P ++ (X1 ++ Xa)) ++ x :: (x :: (Xb ++ T)))[(k - 1).toNat]? = some x := get_of_eq rfl (by simp; omega)
        have hs2 : ((P ++ (X1 ++ Xa)) ++ x :: (x :: (Xb ++ T))).set (k - 1).toNat y = P ++ (X1 ++ (Xa ++ (y :: (x :: Xb ++ T)))) := (set_of_eq rfl (by simp; omega)).trans (by simp)
        repeat' (first | (refine k_op1 ?_; (first | refine o_sv rfl (by decide) ?_ | (refine k_bin ?_; (refine o_val (v_sub (wi64 (by omega) (by omega))) rfl rfl (by decide) ?_)))) | (refine k_ops ?_; (first | refine o_go (by first | exact .inl rfl | exact .inr ⟨_, _, _, rfl, rfl, rfl⟩) ?_ | refine o_nil ?_)) | (refine k_run ?_; (first | refine r_seq ?_ | refine r_region ?_ | refine r_skip ?_ | refine r_block ?_ | refine r_tr ?_ | refine r_inBlock ?_ | refine r_if rfl (fun _ => ?_) (fun _ => ?_) | refine r_exit rfl ?_)) | (refine k_tr ?_; (first | (refine kt_end ?_; refine t_end mix (by kernel_rfl) ?_) | refine t_sv rfl (by first | exact rfl | exact ⟨_, rfl, rfl, rfl⟩) (by decide) ?_ | (refine kt_load ?_; (first | refine t_val (v_rloadm hxk rfl rfl rfl) (by first | exact rfl | exact ⟨_, rfl, rfl, rfl⟩) rfl rfl (by decide) ?_ | refine t_val (v_rloadm hyk rfl rfl rfl) (by first | exact rfl | exact ⟨_, rfl, rfl, rfl⟩) rfl rfl (by decide) ?_)) | (refine kt_index ?_; (refine t_val (v_rindex rfl (by omega) (by simp; omega) rfl) (by first | exact rfl | exact ⟨_, rfl, rfl, rfl⟩) rfl rfl (by decide) ?_)) | (refine kt_bin ?_; (refine t_val (v_sub (wi64 (by omega) (by omega))) (by first | exact rfl | exact ⟨_, rfl, rfl, rfl⟩) rfl rfl (by decide) ?_)) | (refine kt_store ?_; (first | refine t_rstorem x (by first | exact rfl | exact ⟨_, rfl, rfl, rfl⟩) rfl rfl (hcu _) (hn _) hyk rfl rfl rfl hs1 ?_ | refine t_rstorem y (by first | exact rfl | exact ⟨_, rfl, rfl, rfl⟩) rfl rfl (hcu _) (hn _) hz rfl rfl rfl hs2 ?_)))))
        all_goals try (exfalso; omega)
        exact r_less (ih2 (k - 1, Xa, x :: Xb) ⟨by rw [← hab]; simp, by simp only; omega⟩ (by simp)) rfl rfl
  obtain ⟨c2, hc2⟩ : ∃ c2, c2 = (a + b) / 2 := ⟨_, rfl⟩
  have key : ∀ lo0 hi0 : Int, ((m > c2 ∧ lo0 = c2 + m - b ∧ hi0 = c2) ∨ (m ≤ c2 ∧ lo0 = a ∧ hi0 = m)) → a ≤ lo0 ∧ lo0 ≤ hi0 ∧ hi0 ≤ m ∧ c2 + m - hi0 ≥ m ∧ c2 + m - lo0 ≤ b := by intro lo0 hi0 h; omega
  apply r_via (I := fun q : Int × Int => ⟨220, [(0, .ref (0, 1000)), (1, I .i64 a), (2, I .i64 m), (3, I .i64 b), (4, .fn (.func cf) [] [.ptr (kk + 1, sl) 0]), (101000, .al (0, 1000) (1, 1000)), (18, I .i64 ((a + b) / 2)), (19, I .i64 ((a + b) / 2 + m)), (22, I .i64 ((a + b) / 2 + m - 1)), (20, I .i64 q.1), (21, I .i64 q.2)], [(1000, .row 3 1 ((P ++ (X ++ (Y ++ T))).map (fun x => [u x])))], upd H (0, 1000) .gone⟩)
    (D := fun q => (m > c2 ∧ q.1 = c2 + m - b ∧ q.2 = c2) ∨ (m ≤ c2 ∧ q.1 = a ∧ q.2 = m))
  case main =>
    intro fin
    repeat' (first | (refine k_op1 ?_; (first | refine o_sv rfl (by decide) ?_ | (refine k_bin ?_; (first | refine o_val (v_add (wi64 (by omega) (by omega))) rfl rfl (by decide) ?_ | refine o_val (v_sub (wi64 (by omega) (by omega))) rfl rfl (by decide) ?_ | refine o_val (v_half (by omega)) rfl rfl (by decide) ?_)) | (refine k_conv ?_; (first | refine o_val (v_conv rfl rfl (wu64 (by omega) (by omega))) rfl rfl (by decide) ?_ | refine o_val (v_conv rfl rfl (wi64 (by omega) (by omega))) rfl rfl (by decide) ?_)))) | (refine k_ops ?_; (first | refine o_go (by first | exact .inl rfl | exact .inr ⟨_, _, _, rfl, rfl, rfl⟩) ?_ | refine o_nil ?_)) | (refine k_run ?_; (first | refine r_seq ?_ | refine r_region ?_ | refine r_skip ?_ | refine r_block ?_ | refine r_if rfl (fun _ => ?_) (fun _ => ?_))))
    all_goals try (exfalso; omega)
    all_goals first
      | exact r_less (fin ((a + b) / 2 + m - b, (a + b) / 2) (.inl ⟨by omega, by rw [hc2], by rw [hc2]⟩)) rfl rfl
      | exact r_less (fin (a, m) (.inr ⟨by omega, rfl, rfl⟩)) rfl rfl
  intro ⟨lo0, hi0⟩ hD
  simp only at hD ⊢
  obtain ⟨hk1, hk2, hk3, hk4, hk5⟩ := key _ _ hD
  refine r_loop ?_
  refine r_less (r_inv (fun q : Int × Int => ⟨220, [(0, .ref (0, 1000)), (1, I .i64 a), (2, I .i64 m), (3, I .i64 b), (4, .fn (.func cf) [] [.ptr (kk + 1, sl) 0]), (101000, .al (0, 1000) (1, 1000)), (18, I .i64 ((a + b) / 2)), (19, I .i64 ((a + b) / 2 + m)), (22, I .i64 ((a + b) / 2 + m - 1)), (20, I .i64 q.1), (21, I .i64 q.2)], [(1000, .row 3 1 ((P ++ (X ++ (Y ++ T))).map (fun x => [u x])))], upd H (0, 1000) .gone⟩)
    (fun q => lo0 ≤ q.1 ∧ q.1 ≤ q.2 ∧ q.2 ≤ hi0 ∧ (∀ (z : Int) x y, X[(z - a).toNat]? = some x → Y[(c2 + m - 1 - z - m).toNat]? = some y → lo0 ≤ z → z < q.1 → le x y = true) ∧ (∀ (z : Int) x y, X[(z - a).toNat]? = some x → Y[(c2 + m - 1 - z - m).toNat]? = some y → q.2 ≤ z → z < hi0 → le x y = false))
    (fun q => (q.2 - q.1).toNat) ?_ (lo0, hi0) ⟨by simp only; omega, by simp only; omega, by simp only; omega, fun z x y _ _ h h' => by simp only at h'; omega, fun z x y _ _ h h' => by simp only at h; omega⟩) rfl rfl
  intro ⟨lo, hi⟩ ⟨h1, h2, h3, h4, h5⟩ ih
  simp only at h1 h2 h3 h4 h5 ih ⊢
  by_cases hlt : lo < hi
  · obtain ⟨x, hx⟩ : ∃ x, X[((lo + hi) / 2 - a).toNat]? = some x := ⟨_, List.getElem?_eq_getElem (by omega)⟩
    obtain ⟨y, hy⟩ : ∃ y, Y[(c2 + m - 1 - (lo + hi) / 2 - m).toNat]? = some y := ⟨_, List.getElem?_eq_getElem (by omega)⟩
    have hxq : (P ++ (X ++ (Y ++ T)))[((lo + hi) / 2).toNat]? = some x := get_right (j := ((lo + hi) / 2 - a).toNat) (by omega) (get_left hx)
    have hyq : (P ++ (X ++ (Y ++ T)))[((a + b) / 2 + m - 1 - (lo + hi) / 2).toNat]? = some y := get_right (j := (c2 + m - 1 - (lo + hi) / 2 - a).toNat) (by omega) (get_right (j := (c2 + m - 1 - (lo + hi) / 2 - m).toNat) (by omega) (get_left hy))
    repeat' (first | (refine k_op1 ?_; (first | refine o_sv rfl (by decide) ?_ | (refine k_bin ?_; (first | refine o_val (v_add (wi64 (by omega) (by omega))) rfl rfl (by decide) ?_ | refine o_val (v_sub (wi64 (by omega) (by omega))) rfl rfl (by decide) ?_ | refine o_val (v_half (by omega)) rfl rfl (by decide) ?_)) | (refine k_conv ?_; (first | refine o_val (v_conv rfl rfl (wu64 (by omega) (by omega))) rfl rfl (by decide) ?_ | refine o_val (v_conv rfl rfl (wi64 (by omega) (by omega))) rfl rfl (by decide) ?_)))) | (refine k_ops ?_; (first | refine o_go (by first | exact .inl rfl | exact .inr ⟨_, _, _, rfl, rfl, rfl⟩) ?_ | refine o_nil ?_ | refine o_no rfl rfl (by decide) ?_ | refine o_casep rfl rfl (fun _ => ?_) (fun _ => ?_))) | (refine k_run ?_; (first | refine r_seq ?_ | refine r_region ?_ | refine r_false rfl ?_ | refine r_skip ?_ | refine r_block ?_ | refine r_tr ?_ | refine r_inBlock ?_ | refine r_if rfl (fun _ => ?_) (fun _ => ?_) | refine r_ifn rfl (fun _ => ?_) (fun _ => ?_) | refine r_exit rfl ?_)) | (refine k_tr ?_; (first | (refine kt_end ?_; refine t_end mix (by kernel_rfl) ?_) | refine t_sv rfl (by first | exact rfl | exact ⟨_, rfl, rfl, rfl⟩) (by decide) ?_ | (refine kt_load ?_; (first | refine t_val (v_rloadm hxq rfl rfl rfl) (by first | exact rfl | exact ⟨_, rfl, rfl, rfl⟩) rfl rfl (by decide) ?_ | refine t_val (v_rloadm hyq rfl rfl rfl) (by first | exact rfl | exact ⟨_, rfl, rfl, rfl⟩) rfl rfl (by decide) ?_)) | (refine kt_index ?_; (refine t_val (v_rindex rfl (by omega) (by simp; omega) rfl) (by first | exact rfl | exact ⟨_, rfl, rfl, rfl⟩) rfl rfl (by decide) ?_)) | (refine kt_bin ?_; (refine t_val (v_sub (wi64 (by omega) (by omega))) (by first | exact rfl | exact ⟨_, rfl, rfl, rfl⟩) rfl rfl (by decide) ?_)) | (refine kt_call ?_; (refine t_fnv (first := []) (cap := [.ptr (kk + 1, sl) 0]) (ps := [.d (u y), .d (u x)]) (bs := [((kk + 1, sl), blk)]) (hcl (kk + 1) y x) (by first | exact rfl | exact ⟨_, rfl, rfl, rfl⟩) rfl rfl (bk1 hH2) (by decide) ?_)))))
    all_goals try (exfalso; omega)
    · have hxy : le x y = true := by rw [hc]; simp; omega
      refine r_less (ih ((lo + hi) / 2 + 1, hi) ⟨by simp only; omega, by simp only; omega, h3, fun z u v hu hv hl hlt' => ?_, h5⟩ (by simp only; omega)) rfl rfl
      simp only at hlt'
      exact ho.trans _ _ _ (asc_get ho hX (by omega) hu hx) (ho.trans _ _ _ hxy (asc_get ho hY (by omega) hy hv))
    · have hxy : le x y = false := by rw [hc]; simp; omega
      refine r_less (ih (lo, (lo + hi) / 2) ⟨h1, by simp only; omega, by simp only; omega, h4, fun z u v hu hv hl hlt' => ?_⟩ (by simp only; omega)) rfl rfl
      simp only at hl
      cases huv : le u v with
      | false => rfl
      | true => rw [ho.trans _ _ _ (asc_get ho hX (by omega) hx hu) (ho.trans _ _ _ huv (asc_get ho hY (by omega) hv hy))] at hxy; cases hxy
  have hlh : lo = hi := by omega
  subst hlh
  obtain ⟨X1, X2, rfl, hl1⟩ := cut_at X (lo - a).toNat (by omega)
  obtain ⟨Y1, Y2, rfl, hl2⟩ := cut_at Y (c2 - lo).toNat (by omega)
  simp only [List.length_append] at hm hb hlen hN hx1 hy1 hX0 hY0
  have hX1 : Asc le X1 := (List.pairwise_append.1 hX).1
  have hX2 : Asc le X2 := (List.pairwise_append.1 hX).2.1
  have hY1 : Asc le Y1 := (List.pairwise_append.1 hY).1
  have hY2 : Asc le Y2 := (List.pairwise_append.1 hY).2.1
  have hsplit : mrg le (X1 ++ X2) (Y1 ++ Y2) = mrg le X1 Y1 ++ mrg le X2 Y2 := by
    refine sym_parts ho hX hY (fun u v hu hv => ?_) fun u v hu hv => ?_
    · rcases snoc_cases X1 with rfl | ⟨A, u', rfl⟩
      · simp at hu
      · cases Y2 with
        | nil => simp at hv
        | cons v' B =>
          simp at hu hv
          subst hu; subst hv
          simp only [List.length_append, List.length_cons, List.length_nil] at hl1 hl2 hb hm
          exact h4 (lo - 1) _ _ (get_left (get_of_eq (A := A) (B := []) rfl (by omega))) (get_of_eq (A := Y1) (B := B) rfl (by omega)) (by omega) (by omega)
    · rcases snoc_cases Y1 with rfl | ⟨A, u', rfl⟩
      · simp at hu
      · cases X2 with
        | nil => simp at hv
        | cons v' B =>
          simp at hu hv
          subst hu; subst hv
          simp only [List.length_append, List.length_cons, List.length_nil] at hl1 hl2 hb hm
          exact h5 lo _ _ (get_of_eq (A := X1) (B := B) rfl (by omega)) (get_left (get_of_eq (A := A) (B := []) rfl (by omega))) (by omega) (by omega)
  by_cases hr : lo < m ∧ m < c2 + m - lo
  · obtain ⟨hr1, hr2⟩ := hr
    by_cases hs1 : a < lo ∧ lo < c2
    · obtain ⟨hs1, hs1'⟩ := hs1
      by_cases hs2 : c2 < c2 + m - lo ∧ c2 + m - lo < b
      · obtain ⟨hs2, hs2'⟩ := hs2
        have hROT := (eff_row (bs := []) (rot_st u hcu hn cf (kk + 1) sl (P ++ X1) X2 Y1 (Y2 ++ T) lo m ((a + b) / 2 + m - lo) (by simp; omega) (by simp; omega) (by simp; omega) (by omega) (by omega) (by simp; omega)) (q := P ++ (X1 ++ X2 ++ (Y1 ++ Y2 ++ T))) (q' := P ++ (X1 ++ (Y1 ++ (X2 ++ (Y2 ++ T))))) (by simp) (by simp))
        have hSY1 := (IH (kk + 1) P X1 Y1 (X2 ++ (Y2 ++ T)) a lo ((a + b) / 2) (by omega) (by omega) (by omega) (by omega) (by omega) (by omega) hX1 hY1 (by simp; omega))
        have hSY2 := (eff_row (IH (kk + 1) (P ++ (mrg le X1 Y1)) X2 Y2 T ((a + b) / 2) ((a + b) / 2 + m - lo) b (by simp [mrg_length]; omega) (by simp [mrg_length]; omega) (by simp [mrg_length]; omega) (by omega) (by omega) (by omega) hX2 hY2 (by simp [mrg_length]; omega)) (q := P ++ (mrg le X1 Y1 ++ (X2 ++ (Y2 ++ T)))) (q' := P ++ ((mrg le X1 Y1) ++ (mrg le X2 Y2 ++ T))) (by simp) (by simp))
        repeat' (first | (refine k_op1 ?_; (first | refine o_sv rfl (by decide) ?_ | (refine k_bin ?_; (first | refine o_val (v_add (wi64 (by omega) (by omega))) rfl rfl (by decide) ?_ | refine o_val (v_sub (wi64 (by omega) (by omega))) rfl rfl (by decide) ?_ | refine o_val (v_half (by omega)) rfl rfl (by decide) ?_)) | (refine k_call ?_; (first | refine o_effr hROT rfl rfl rfl (by decide) ?_ | refine o_effr hSY1 rfl rfl (bk1 hH2) (by decide) ?_ | refine o_effr hSY2 rfl rfl (bk1 hH2) (by decide) ?_)) | (refine k_conv ?_; (first | refine o_val (v_conv rfl rfl (wu64 (by omega) (by omega))) rfl rfl (by decide) ?_ | refine o_val (v_conv rfl rfl (wi64 (by omega) (by omega))) rfl rfl (by decide) ?_)))) | (refine k_ops ?_; (first | refine o_go (by first | exact .inl rfl | exact .inr ⟨_, _, _, rfl, rfl, rfl⟩) ?_ | refine o_nil ?_ | refine o_no rfl rfl (by decide) ?_ | refine o_casep rfl rfl (fun _ => ?_) (fun _ => ?_))) | (refine k_run ?_; (first | refine r_seq ?_ | refine r_region ?_ | refine r_false rfl ?_ | refine r_skip ?_ | refine r_block ?_ | refine r_tr ?_ | refine r_if rfl (fun _ => ?_) (fun _ => ?_) | refine r_exit rfl ?_)) | (refine k_tr ?_; (first | refine t_sv rfl (by first | exact rfl | exact ⟨_, rfl, rfl, rfl⟩) (by decide) ?_ | (refine kt_bin ?_; (refine t_val (v_sub (wi64 (by omega) (by omega))) (by first | exact rfl | exact ⟨_, rfl, rfl, rfl⟩) rfl rfl (by decide) ?_)))))
        all_goals try (exfalso; omega)
        all_goals refine r_giver 1000 0 1000 rfl rfl rfl ?_
        all_goals refine r_end Try.func66 _ (res_none rfl) ⟨rfl, ?_⟩
        all_goals rw [updL_one, upd_upd, hsplit]
        all_goals simp
      · have he2 : mrg le X2 Y2 = X2 ++ Y2 := by
          have : X2 = [] ∨ Y2 = [] := (by rcases Nat.eq_zero_or_pos X2.length with h | h; exact .inl (List.length_eq_zero_iff.1 h); exact .inr (List.length_eq_zero_iff.1 (by omega)))
          rcases this with h | h <;> simp [h, mrg_nil, nil_mrg]
        have hROT := (eff_row (bs := []) (rot_st u hcu hn cf (kk + 1) sl (P ++ X1) X2 Y1 (Y2 ++ T) lo m ((a + b) / 2 + m - lo) (by simp; omega) (by simp; omega) (by simp; omega) (by omega) (by omega) (by simp; omega)) (q := P ++ (X1 ++ X2 ++ (Y1 ++ Y2 ++ T))) (q' := P ++ (X1 ++ (Y1 ++ (X2 ++ (Y2 ++ T))))) (by simp) (by simp))
        have hSY1 := (IH (kk + 1) P X1 Y1 (X2 ++ (Y2 ++ T)) a lo ((a + b) / 2) (by omega) (by omega) (by omega) (by omega) (by omega) (by omega) hX1 hY1 (by simp; omega))
        repeat' (first | (refine k_op1 ?_; (first | refine o_sv rfl (by decide) ?_ | (refine k_bin ?_; (first | refine o_val (v_add (wi64 (by omega) (by omega))) rfl rfl (by decide) ?_ | refine o_val (v_sub (wi64 (by omega) (by omega))) rfl rfl (by decide) ?_ | refine o_val (v_half (by omega)) rfl rfl (by decide) ?_)) | (refine k_call ?_; (first | refine o_effr hROT rfl rfl rfl (by decide) ?_ | refine o_effr hSY1 rfl rfl (bk1 hH2) (by decide) ?_)) | (refine k_conv ?_; (first | refine o_val (v_conv rfl rfl (wu64 (by omega) (by omega))) rfl rfl (by decide) ?_ | refine o_val (v_conv rfl rfl (wi64 (by omega) (by omega))) rfl rfl (by decide) ?_)))) | (refine k_ops ?_; (first | refine o_go (by first | exact .inl rfl | exact .inr ⟨_, _, _, rfl, rfl, rfl⟩) ?_ | refine o_nil ?_ | refine o_no rfl rfl (by decide) ?_ | refine o_casep rfl rfl (fun _ => ?_) (fun _ => ?_))) | (refine k_run ?_; (first | refine r_seq ?_ | refine r_region ?_ | refine r_false rfl ?_ | refine r_skip ?_ | refine r_block ?_ | refine r_tr ?_ | refine r_if rfl (fun _ => ?_) (fun _ => ?_) | refine r_exit rfl ?_)) | (refine k_tr ?_; (first | refine t_sv rfl (by first | exact rfl | exact ⟨_, rfl, rfl, rfl⟩) (by decide) ?_ | (refine kt_bin ?_; (refine t_val (v_sub (wi64 (by omega) (by omega))) (by first | exact rfl | exact ⟨_, rfl, rfl, rfl⟩) rfl rfl (by decide) ?_)))))
        all_goals try (exfalso; omega)
        all_goals refine r_giver 1000 0 1000 rfl rfl rfl ?_
        all_goals refine r_end Try.func66 _ (res_none rfl) ⟨rfl, ?_⟩
        all_goals rw [updL_one, upd_upd, hsplit, he2]
        all_goals simp
    · have he1 : mrg le X1 Y1 = X1 ++ Y1 := by
        have : X1 = [] ∨ Y1 = [] := (by rcases Nat.eq_zero_or_pos X1.length with h | h; exact .inl (List.length_eq_zero_iff.1 h); exact .inr (List.length_eq_zero_iff.1 (by omega)))
        rcases this with h | h <;> simp [h, mrg_nil, nil_mrg]
      by_cases hs2 : c2 < c2 + m - lo ∧ c2 + m - lo < b
      · obtain ⟨hs2, hs2'⟩ := hs2
        have hROT := (eff_row (bs := []) (rot_st u hcu hn cf (kk + 1) sl (P ++ X1) X2 Y1 (Y2 ++ T) lo m ((a + b) / 2 + m - lo) (by simp; omega) (by simp; omega) (by simp; omega) (by omega) (by omega) (by simp; omega)) (q := P ++ (X1 ++ X2 ++ (Y1 ++ Y2 ++ T))) (q' := P ++ (X1 ++ (Y1 ++ (X2 ++ (Y2 ++ T))))) (by simp) (by simp))
        have hSY2 := (eff_row (IH (kk + 1) (P ++ (X1 ++ Y1)) X2 Y2 T ((a + b) / 2) ((a + b) / 2 + m - lo) b (by simp [mrg_length]; omega) (by simp [mrg_length]; omega) (by simp [mrg_length]; omega) (by omega) (by omega) (by omega) hX2 hY2 (by simp [mrg_length]; omega)) (q := P ++ (X1 ++ (Y1 ++ (X2 ++ (Y2 ++ T))))) (q' := P ++ ((X1 ++ Y1) ++ (mrg le X2 Y2 ++ T))) (by simp) (by simp))
        repeat' (first | (refine k_op1 ?_; (first | refine o_sv rfl (by decide) ?_ | (refine k_bin ?_; (first | refine o_val (v_add (wi64 (by omega) (by omega))) rfl rfl (by decide) ?_ | refine o_val (v_sub (wi64 (by omega) (by omega))) rfl rfl (by decide) ?_ | refine o_val (v_half (by omega)) rfl rfl (by decide) ?_)) | (refine k_call ?_; (first | refine o_effr hROT rfl rfl rfl (by decide) ?_ | refine o_effr hSY2 rfl rfl (bk1 hH2) (by decide) ?_)) | (refine k_conv ?_; (first | refine o_val (v_conv rfl rfl (wu64 (by omega) (by omega))) rfl rfl (by decide) ?_ | refine o_val (v_conv rfl rfl (wi64 (by omega) (by omega))) rfl rfl (by decide) ?_)))) | (refine k_ops ?_; (first | refine o_go (by first | exact .inl rfl | exact .inr ⟨_, _, _, rfl, rfl, rfl⟩) ?_ | refine o_nil ?_ | refine o_no rfl rfl (by decide) ?_ | refine o_casep rfl rfl (fun _ => ?_) (fun _ => ?_))) | (refine k_run ?_; (first | refine r_seq ?_ | refine r_region ?_ | refine r_false rfl ?_ | refine r_skip ?_ | refine r_block ?_ | refine r_tr ?_ | refine r_if rfl (fun _ => ?_) (fun _ => ?_) | refine r_exit rfl ?_)) | (refine k_tr ?_; (first | refine t_sv rfl (by first | exact rfl | exact ⟨_, rfl, rfl, rfl⟩) (by decide) ?_ | (refine kt_bin ?_; (refine t_val (v_sub (wi64 (by omega) (by omega))) (by first | exact rfl | exact ⟨_, rfl, rfl, rfl⟩) rfl rfl (by decide) ?_)))))
        all_goals try (exfalso; omega)
        all_goals refine r_giver 1000 0 1000 rfl rfl rfl ?_
        all_goals refine r_end Try.func66 _ (res_none rfl) ⟨rfl, ?_⟩
        all_goals rw [updL_one, upd_upd, hsplit, he1]
        all_goals simp
      · have he2 : mrg le X2 Y2 = X2 ++ Y2 := by
          have : X2 = [] ∨ Y2 = [] := (by rcases Nat.eq_zero_or_pos X2.length with h | h; exact .inl (List.length_eq_zero_iff.1 h); exact .inr (List.length_eq_zero_iff.1 (by omega)))
          rcases this with h | h <;> simp [h, mrg_nil, nil_mrg]
        have hROT := (eff_row (bs := []) (rot_st u hcu hn cf (kk + 1) sl (P ++ X1) X2 Y1 (Y2 ++ T) lo m ((a + b) / 2 + m - lo) (by simp; omega) (by simp; omega) (by simp; omega) (by omega) (by omega) (by simp; omega)) (q := P ++ (X1 ++ X2 ++ (Y1 ++ Y2 ++ T))) (q' := P ++ (X1 ++ (Y1 ++ (X2 ++ (Y2 ++ T))))) (by simp) (by simp))
        repeat' (first | (refine k_op1 ?_; (first | refine o_sv rfl (by decide) ?_ | (refine k_bin ?_; (first | refine o_val (v_add (wi64 (by omega) (by omega))) rfl rfl (by decide) ?_ | refine o_val (v_sub (wi64 (by omega) (by omega))) rfl rfl (by decide) ?_ | refine o_val (v_half (by omega)) rfl rfl (by decide) ?_)) | (refine k_call ?_; (refine o_effr hROT rfl rfl rfl (by decide) ?_)) | (refine k_conv ?_; (first | refine o_val (v_conv rfl rfl (wu64 (by omega) (by omega))) rfl rfl (by decide) ?_ | refine o_val (v_conv rfl rfl (wi64 (by omega) (by omega))) rfl rfl (by decide) ?_)))) | (refine k_ops ?_; (first | refine o_go (by first | exact .inl rfl | exact .inr ⟨_, _, _, rfl, rfl, rfl⟩) ?_ | refine o_nil ?_ | refine o_no rfl rfl (by decide) ?_ | refine o_casep rfl rfl (fun _ => ?_) (fun _ => ?_))) | (refine k_run ?_; (first | refine r_seq ?_ | refine r_region ?_ | refine r_false rfl ?_ | refine r_skip ?_ | refine r_block ?_ | refine r_tr ?_ | refine r_if rfl (fun _ => ?_) (fun _ => ?_) | refine r_exit rfl ?_)) | (refine k_tr ?_; (first | refine t_sv rfl (by first | exact rfl | exact ⟨_, rfl, rfl, rfl⟩) (by decide) ?_ | (refine kt_bin ?_; (refine t_val (v_sub (wi64 (by omega) (by omega))) (by first | exact rfl | exact ⟨_, rfl, rfl, rfl⟩) rfl rfl (by decide) ?_)))))
        all_goals try (exfalso; omega)
        all_goals refine r_giver 1000 0 1000 rfl rfl rfl ?_
        all_goals refine r_end Try.func66 _ (res_none rfl) ⟨rfl, ?_⟩
        all_goals rw [updL_one, upd_upd, hsplit, he1, he2]
        all_goals simp
  · have he0 : X2 = [] ∨ Y1 = [] := (by rcases Nat.eq_zero_or_pos X2.length with h | h; exact .inl (List.length_eq_zero_iff.1 h); exact .inr (List.length_eq_zero_iff.1 (by omega)))
    rw [show P ++ (X1 ++ X2 ++ (Y1 ++ Y2 ++ T)) = P ++ (X1 ++ (Y1 ++ (X2 ++ (Y2 ++ T)))) by rcases he0 with h | h <;> simp [h]]
    by_cases hs1 : a < lo ∧ lo < c2
    · obtain ⟨hs1, hs1'⟩ := hs1
      by_cases hs2 : c2 < c2 + m - lo ∧ c2 + m - lo < b
      · obtain ⟨hs2, hs2'⟩ := hs2
        have hSY1 := (IH (kk + 1) P X1 Y1 (X2 ++ (Y2 ++ T)) a lo ((a + b) / 2) (by omega) (by omega) (by omega) (by omega) (by omega) (by omega) hX1 hY1 (by simp; omega))
        have hSY2 := (eff_row (IH (kk + 1) (P ++ (mrg le X1 Y1)) X2 Y2 T ((a + b) / 2) ((a + b) / 2 + m - lo) b (by simp [mrg_length]; omega) (by simp [mrg_length]; omega) (by simp [mrg_length]; omega) (by omega) (by omega) (by omega) hX2 hY2 (by simp [mrg_length]; omega)) (q := P ++ (mrg le X1 Y1 ++ (X2 ++ (Y2 ++ T)))) (q' := P ++ ((mrg le X1 Y1) ++ (mrg le X2 Y2 ++ T))) (by simp) (by simp))
        repeat' (first | (refine k_op1 ?_; (first | refine o_sv rfl (by decide) ?_ | (refine k_bin ?_; (first | refine o_val (v_add (wi64 (by omega) (by omega))) rfl rfl (by decide) ?_ | refine o_val (v_sub (wi64 (by omega) (by omega))) rfl rfl (by decide) ?_ | refine o_val (v_half (by omega)) rfl rfl (by decide) ?_)) | (refine k_call ?_; (first | refine o_effr hSY1 rfl rfl (bk1 hH2) (by decide) ?_ | refine o_effr hSY2 rfl rfl (bk1 hH2) (by decide) ?_)) | (refine k_conv ?_; (first | refine o_val (v_conv rfl rfl (wu64 (by omega) (by omega))) rfl rfl (by decide) ?_ | refine o_val (v_conv rfl rfl (wi64 (by omega) (by omega))) rfl rfl (by decide) ?_)))) | (refine k_ops ?_; (first | refine o_go (by first | exact .inl rfl | exact .inr ⟨_, _, _, rfl, rfl, rfl⟩) ?_ | refine o_nil ?_ | refine o_no rfl rfl (by decide) ?_ | refine o_casep rfl rfl (fun _ => ?_) (fun _ => ?_))) | (refine k_run ?_; (first | refine r_seq ?_ | refine r_region ?_ | refine r_false rfl ?_ | refine r_skip ?_ | refine r_block ?_ | refine r_tr ?_ | refine r_if rfl (fun _ => ?_) (fun _ => ?_) | refine r_exit rfl ?_)) | (refine k_tr ?_; (first | refine t_sv rfl (by first | exact rfl | exact ⟨_, rfl, rfl, rfl⟩) (by decide) ?_ | (refine kt_bin ?_; (refine t_val (v_sub (wi64 (by omega) (by omega))) (by first | exact rfl | exact ⟨_, rfl, rfl, rfl⟩) rfl rfl (by decide) ?_)))))
        all_goals try (exfalso; omega)
        all_goals refine r_giver 1000 0 1000 rfl rfl rfl ?_
        all_goals refine r_end Try.func66 _ (res_none rfl) ⟨rfl, ?_⟩
        all_goals rw [updL_one, upd_upd, hsplit]
        all_goals simp
      · have he2 : mrg le X2 Y2 = X2 ++ Y2 := by
          have : X2 = [] ∨ Y2 = [] := (by rcases Nat.eq_zero_or_pos X2.length with h | h; exact .inl (List.length_eq_zero_iff.1 h); exact .inr (List.length_eq_zero_iff.1 (by omega)))
          rcases this with h | h <;> simp [h, mrg_nil, nil_mrg]
        have hSY1 := (IH (kk + 1) P X1 Y1 (X2 ++ (Y2 ++ T)) a lo ((a + b) / 2) (by omega) (by omega) (by omega) (by omega) (by omega) (by omega) hX1 hY1 (by simp; omega))
        repeat' (first | (refine k_op1 ?_; (first | refine o_sv rfl (by decide) ?_ | (refine k_bin ?_; (first | refine o_val (v_add (wi64 (by omega) (by omega))) rfl rfl (by decide) ?_ | refine o_val (v_sub (wi64 (by omega) (by omega))) rfl rfl (by decide) ?_ | refine o_val (v_half (by omega)) rfl rfl (by decide) ?_)) | (refine k_call ?_; (refine o_effr hSY1 rfl rfl (bk1 hH2) (by decide) ?_)) | (refine k_conv ?_; (first | refine o_val (v_conv rfl rfl (wu64 (by omega) (by omega))) rfl rfl (by decide) ?_ | refine o_val (v_conv rfl rfl (wi64 (by omega) (by omega))) rfl rfl (by decide) ?_)))) | (refine k_ops ?_; (first | refine o_go (by first | exact .inl rfl | exact .inr ⟨_, _, _, rfl, rfl, rfl⟩) ?_ | refine o_nil ?_ | refine o_no rfl rfl (by decide) ?_ | refine o_casep rfl rfl (fun _ => ?_) (fun _ => ?_))) | (refine k_run ?_; (first | refine r_seq ?_ | refine r_region ?_ | refine r_false rfl ?_ | refine r_skip ?_ | refine r_block ?_ | refine r_tr ?_ | refine r_if rfl (fun _ => ?_) (fun _ => ?_) | refine r_exit rfl ?_)) | (refine k_tr ?_; (first | refine t_sv rfl (by first | exact rfl | exact ⟨_, rfl, rfl, rfl⟩) (by decide) ?_ | (refine kt_bin ?_; (refine t_val (v_sub (wi64 (by omega) (by omega))) (by first | exact rfl | exact ⟨_, rfl, rfl, rfl⟩) rfl rfl (by decide) ?_)))))
        all_goals try (exfalso; omega)
        all_goals refine r_giver 1000 0 1000 rfl rfl rfl ?_
        all_goals refine r_end Try.func66 _ (res_none rfl) ⟨rfl, ?_⟩
        all_goals rw [updL_one, upd_upd, hsplit, he2]
        all_goals simp
    · have he1 : mrg le X1 Y1 = X1 ++ Y1 := by
        have : X1 = [] ∨ Y1 = [] := (by rcases Nat.eq_zero_or_pos X1.length with h | h; exact .inl (List.length_eq_zero_iff.1 h); exact .inr (List.length_eq_zero_iff.1 (by omega)))
        rcases this with h | h <;> simp [h, mrg_nil, nil_mrg]
      by_cases hs2 : c2 < c2 + m - lo ∧ c2 + m - lo < b
      · obtain ⟨hs2, hs2'⟩ := hs2
        have hSY2 := (eff_row (IH (kk + 1) (P ++ (X1 ++ Y1)) X2 Y2 T ((a + b) / 2) ((a + b) / 2 + m - lo) b (by simp [mrg_length]; omega) (by simp [mrg_length]; omega) (by simp [mrg_length]; omega) (by omega) (by omega) (by omega) hX2 hY2 (by simp [mrg_length]; omega)) (q := P ++ (X1 ++ (Y1 ++ (X2 ++ (Y2 ++ T))))) (q' := P ++ ((X1 ++ Y1) ++ (mrg le X2 Y2 ++ T))) (by simp) (by simp))
        repeat' (first | (refine k_op1 ?_; (first | refine o_sv rfl (by decide) ?_ | (refine k_bin ?_; (first | refine o_val (v_add (wi64 (by omega) (by omega))) rfl rfl (by decide) ?_ | refine o_val (v_sub (wi64 (by omega) (by omega))) rfl rfl (by decide) ?_ | refine o_val (v_half (by omega)) rfl rfl (by decide) ?_)) | (refine k_call ?_; (refine o_effr hSY2 rfl rfl (bk1 hH2) (by decide) ?_)) | (refine k_conv ?_; (first | refine o_val (v_conv rfl rfl (wu64 (by omega) (by omega))) rfl rfl (by decide) ?_ | refine o_val (v_conv rfl rfl (wi64 (by omega) (by omega))) rfl rfl (by decide) ?_)))) | (refine k_ops ?_; (first | refine o_go (by first | exact .inl rfl | exact .inr ⟨_, _, _, rfl, rfl, rfl⟩) ?_ | refine o_nil ?_ | refine o_no rfl rfl (by decide) ?_ | refine o_casep rfl rfl (fun _ => ?_) (fun _ => ?_))) | (refine k_run ?_; (first | refine r_seq ?_ | refine r_region ?_ | refine r_false rfl ?_ | refine r_skip ?_ | refine r_block ?_ | refine r_tr ?_ | refine r_if rfl (fun _ => ?_) (fun _ => ?_) | refine r_exit rfl ?_)) | (refine k_tr ?_; (first | refine t_sv rfl (by first | exact rfl | exact ⟨_, rfl, rfl, rfl⟩) (by decide) ?_ | (refine kt_bin ?_; (refine t_val (v_sub (wi64 (by omega) (by omega))) (by first | exact rfl | exact ⟨_, rfl, rfl, rfl⟩) rfl rfl (by decide) ?_)))))
        all_goals try (exfalso; omega)
        all_goals refine r_giver 1000 0 1000 rfl rfl rfl ?_
        all_goals refine r_end Try.func66 _ (res_none rfl) ⟨rfl, ?_⟩
        all_goals rw [updL_one, upd_upd, hsplit, he1]
        all_goals simp
      · have he2 : mrg le X2 Y2 = X2 ++ Y2 := by
          have : X2 = [] ∨ Y2 = [] := (by rcases Nat.eq_zero_or_pos X2.length with h | h; exact .inl (List.length_eq_zero_iff.1 h); exact .inr (List.length_eq_zero_iff.1 (by omega)))
          rcases this with h | h <;> simp [h, mrg_nil, nil_mrg]
        repeat' (first | (refine k_op1 ?_; (first | refine o_sv rfl (by decide) ?_ | (refine k_bin ?_; (first | refine o_val (v_add (wi64 (by omega) (by omega))) rfl rfl (by decide) ?_ | refine o_val (v_sub (wi64 (by omega) (by omega))) rfl rfl (by decide) ?_ | refine o_val (v_half (by omega)) rfl rfl (by decide) ?_)) | (refine k_conv ?_; (first | refine o_val (v_conv rfl rfl (wu64 (by omega) (by omega))) rfl rfl (by decide) ?_ | refine o_val (v_conv rfl rfl (wi64 (by omega) (by omega))) rfl rfl (by decide) ?_)))) | (refine k_ops ?_; (first | refine o_go (by first | exact .inl rfl | exact .inr ⟨_, _, _, rfl, rfl, rfl⟩) ?_ | refine o_nil ?_ | refine o_no rfl rfl (by decide) ?_ | refine o_casep rfl rfl (fun _ => ?_) (fun _ => ?_))) | (refine k_run ?_; (first | refine r_seq ?_ | refine r_region ?_ | refine r_false rfl ?_ | refine r_skip ?_ | refine r_block ?_ | refine r_tr ?_ | refine r_if rfl (fun _ => ?_) (fun _ => ?_) | refine r_exit rfl ?_)) | (refine k_tr ?_; (first | refine t_sv rfl (by first | exact rfl | exact ⟨_, rfl, rfl, rfl⟩) (by decide) ?_ | (refine kt_bin ?_; (refine t_val (v_sub (wi64 (by omega) (by omega))) (by first | exact rfl | exact ⟨_, rfl, rfl, rfl⟩) rfl rfl (by decide) ?_)))))
        all_goals try (exfalso; omega)
        all_goals refine r_giver 1000 0 1000 rfl rfl rfl ?_
        all_goals refine r_end Try.func66 _ (res_none rfl) ⟨rfl, ?_⟩
        all_goals rw [updL_one, upd_upd, hsplit, he1, he2]
        all_goals simp

theorem stb_st {α : Type} (u : α → D) (hcu : ∀ x, cellsOf (.d (u x)) = some [.d (u x)]) (hn : ∀ x, allD [.d (u x)] = some [u x]) (cf : FuncId) (kk sl : Nat) (blk : Blk) (hsl : sl ≠ 1000) (le : α → α → Bool) (c : α → α → Int) (hc : ∀ x y, le x y = !decide (c y x < 0)) (hcl : ∀ (j : Nat) (x y : α), Eff1 Try.prog cf [.d (u x), .d (u y), .ptr (j, sl) 0] [((j, sl), blk)] [] (I .i64 (c x y))) (ho : Ord le) (q : List α) (n : Int) (hnq : n = q.length) (hlen : q.length ≤ 1000000) :
    Eff1 Try.prog 57 [.ref (0, 1000), I .i64 n, .fn (.func cf) [] [.ptr (kk, sl) 0]] [((0, 1000), .row 3 1 (q.map (fun x => [u x]))), ((kk, sl), blk)] [((0, 1000), .row 3 1 ((isort le q).map (fun x => [u x])))] (.tup []) := by
  refine eff_of fun H hH => ?_
  have hH0 := hH ((0, 1000), .row 3 1 (q.map (fun x => [u x]))) (by simp)
  have hH1 := hH ((kk, sl), blk) (by simp)
  have hH2 : (upd H (0, 1000) .gone) kk sl = some blk := upd_ne hH1 (by simp; intro _ h; exact hsl h)
  refine spec_of Try.func57 (by kernel_rfl) rfl (by simp) ?_
  dsimp only [Try.f57]
  refine r_taker 1000 0 1000 hH0 rfl rfl ?_
  repeat' (first | (refine k_op1 ?_; (refine o_sv rfl (by decide) ?_)) | (refine k_ops ?_; (first | refine o_go (by first | exact .inl rfl | exact .inr ⟨_, _, _, rfl, rfl, rfl⟩) ?_ | refine o_nil ?_)) | (refine k_run ?_; (first | refine r_seq ?_ | refine r_region ?_ | refine r_block ?_)))
  refine r_loop ?_
  refine r_less (r_inv (fun z : Int × Int × List α × List α => ⟨63, [(0, .ref (0, 1000)), (1, I .i64 n), (2, .fn (.func cf) [] [.ptr (kk + 1, sl) 0]), (101000, .al (0, 1000) (1, 1000)), (6, I .i64 20), (7, I .i64 z.1), (8, I .i64 z.2.1)], [(1000, .row 3 1 ((z.2.2.1 ++ z.2.2.2).map (fun x => [u x])))], upd H (0, 1000) .gone⟩)
    (fun z => z.1 = z.2.2.1.length ∧ z.2.1 = z.1 + 20 ∧ z.2.2.1.length + z.2.2.2.length = q.length ∧ z.2.2.1 ++ csort le 20 z.2.2.2 = csort le 20 q) (fun z => z.2.2.2.length) ?_ (0, 20, [], q) ⟨rfl, rfl, by simp, rfl⟩) rfl rfl
  intro ⟨a, b, A, R⟩ ⟨h1, h2, h3, h4⟩ ih
  simp only at h1 h2 h3 h4 ih ⊢
  by_cases hb : b ≤ n
  · obtain ⟨R1, R2, rfl, hR⟩ := cut_at R 20 (by omega)
    simp only [List.length_append] at h3
    have hC := (ins_st u hcu hn cf (kk + 1) sl blk hsl le c hc hcl ho A R1 R2 a b (by omega) (by omega) (by omega))
    repeat' (first | (refine k_op1 ?_; (first | refine o_sv rfl (by decide) ?_ | (refine k_bin ?_; (refine o_val (v_add (wi64 (by omega) (by omega))) rfl rfl (by decide) ?_)) | (refine k_call ?_; (refine o_effr hC rfl rfl (bk1 hH2) (by decide) ?_)))) | (refine k_ops ?_; (first | refine o_go (by first | exact .inl rfl | exact .inr ⟨_, _, _, rfl, rfl, rfl⟩) ?_ | refine o_nil ?_)) | (refine k_run ?_; (first | refine r_seq ?_ | refine r_region ?_ | refine r_skip ?_ | refine r_block ?_ | refine r_inBlock ?_ | refine r_if rfl (fun _ => ?_) (fun _ => ?_) | refine r_exit rfl ?_)))
    all_goals try (exfalso; omega)
    have hil := isort_length (le := le) R1
    rw [show A ++ (isort le R1 ++ R2) = (A ++ isort le R1) ++ R2 by simp]
    refine r_less (ih (b, b + 20, A ++ isort le R1, R2) ⟨by simp only [List.length_append]; omega, rfl, by simp only [List.length_append]; omega, ?_⟩ (by simp only [List.length_append]; omega)) rfl rfl
    rw [← h4, csort_app (by omega) R1 R2 hR]; simp
  have hC := eff_row (ins_st u hcu hn cf (kk + 1) sl blk hsl le c hc hcl ho A R [] a n (by omega) (by omega) (by simp; omega)) (q := A ++ R) (q' := csort le 20 q) (by simp) (by rw [← h4, csort_small (by omega)]; simp)
  repeat' (first | (refine k_op1 ?_; (first | refine o_sv rfl (by decide) ?_ | (refine k_call ?_; (refine o_effr hC rfl rfl (bk1 hH2) (by decide) ?_)))) | (refine k_ops ?_; (first | refine o_go (by first | exact .inl rfl | exact .inr ⟨_, _, _, rfl, rfl, rfl⟩) ?_ | refine o_nil ?_)) | (refine k_run ?_; (first | refine r_seq ?_ | refine r_region ?_ | refine r_skip ?_ | refine r_block ?_ | refine r_if rfl (fun _ => ?_) (fun _ => ?_) | refine r_exit rfl ?_)))
  all_goals try (exfalso; omega)
  refine r_loop ?_
  refine r_less (r_inv (fun z : Int => ⟨63, [(0, .ref (0, 1000)), (1, I .i64 n), (2, .fn (.func cf) [] [.ptr (kk + 1, sl) 0]), (101000, .al (0, 1000) (1, 1000)), (6, I .i64 z)], [(1000, .row 3 1 ((csort le z.toNat q).map (fun x => [u x])))], upd H (0, 1000) .gone⟩)
    (fun z => 0 < z) (fun z => (n - z).toNat) ?_ 20 (by omega)) rfl rfl
  intro bs hbs ih2
  by_cases hbn : bs < n
  · repeat' (first | (refine k_op1 ?_; (first | refine o_sv rfl (by decide) ?_ | (refine k_bin ?_; (refine o_val (v_mul (wi64 (by omega) (by omega))) rfl rfl (by decide) ?_)))) | (refine k_ops ?_; (first | refine o_go (by first | exact .inl rfl | exact .inr ⟨_, _, _, rfl, rfl, rfl⟩) ?_ | refine o_nil ?_)) | (refine k_run ?_; (first | refine r_seq ?_ | refine r_region ?_ | refine r_skip ?_ | refine r_block ?_ | refine r_if rfl (fun _ => ?_) (fun _ => ?_) | refine r_exit rfl ?_)))
    all_goals try (exfalso; omega)
    refine r_loop ?_
    refine r_less (r_inv (fun z : Int × Int × List α × List α => ⟨63, [(0, .ref (0, 1000)), (1, I .i64 n), (2, .fn (.func cf) [] [.ptr (kk + 1, sl) 0]), (101000, .al (0, 1000) (1, 1000)), (6, I .i64 bs), (7, I .i64 z.1), (8, I .i64 z.2.1)], [(1000, .row 3 1 ((z.2.2.1 ++ csort le bs.toNat z.2.2.2).map (fun x => [u x])))], upd H (0, 1000) .gone⟩)
      (fun z => z.1 = z.2.2.1.length ∧ z.2.1 = z.1 + 2 * bs ∧ z.2.2.1.length + z.2.2.2.length = q.length ∧ z.2.2.1 ++ csort le (2 * bs).toNat z.2.2.2 = csort le (2 * bs).toNat q) (fun z => z.2.2.2.length) ?_ (0, 2 * bs, [], q) ⟨rfl, by simp, by simp, rfl⟩) rfl rfl
    intro ⟨a, b, A, R⟩ ⟨h1, h2, h3, h4⟩ ih3
    simp only at h1 h2 h3 h4 ih3 ⊢
    by_cases hb : b ≤ n
    · obtain ⟨R1, R', rfl, hR1⟩ := cut_at R bs.toNat (by omega)
      simp only [List.length_append] at h3
      obtain ⟨R2, R3, rfl, hR2⟩ := cut_at R' bs.toNat (by omega)
      simp only [List.length_append] at h3
      have hil1 := isort_length (le := le) R1
      have hil2 := isort_length (le := le) R2
      have hil3 := csort_length (le := le) (bs := bs.toNat) R3.length R3 (Nat.le_refl _)
      rw [csort_app (by omega) R1 _ hR1, csort_app (by omega) R2 _ hR2]
      have hC := (sym_st u hcu hn cf sl blk hsl le c hc hcl ho (R1.length + R2.length) (kk + 1) A (isort le R1) (isort le R2) (csort le bs.toNat R3) a (a + bs) b (by omega) (by omega) (by omega) (by omega) (by omega) (by omega) (isort_asc ho _) (isort_asc ho _) (by omega))
      repeat' (first | (refine k_op1 ?_; (first | refine o_sv rfl (by decide) ?_ | (refine k_bin ?_; (first | refine o_val (v_add (wi64 (by omega) (by omega))) rfl rfl (by decide) ?_ | refine o_val (v_mul (wi64 (by omega) (by omega))) rfl rfl (by decide) ?_)) | (refine k_call ?_; (refine o_effr hC rfl rfl (bk1 hH2) (by decide) ?_)))) | (refine k_ops ?_; (first | refine o_go (by first | exact .inl rfl | exact .inr ⟨_, _, _, rfl, rfl, rfl⟩) ?_ | refine o_nil ?_)) | (refine k_run ?_; (first | refine r_seq ?_ | refine r_region ?_ | refine r_skip ?_ | refine r_block ?_ | refine r_inBlock ?_ | refine r_if rfl (fun _ => ?_) (fun _ => ?_) | refine r_exit rfl ?_)))
      all_goals try (exfalso; omega)
      have hil4 := isort_length (le := le) (R1 ++ R2)
      simp only [List.length_append] at hil4
      rw [isort_append ho, show A ++ (isort le (R1 ++ R2) ++ csort le bs.toNat R3) = (A ++ isort le (R1 ++ R2)) ++ csort le bs.toNat R3 by simp]
      refine r_less (ih3 (b, b + 2 * bs, A ++ isort le (R1 ++ R2), R3) ⟨by simp only [List.length_append]; omega, rfl, by simp only [List.length_append]; omega, ?_⟩ (by simp only [List.length_append]; omega)) rfl rfl
      rw [← h4, show R1 ++ (R2 ++ R3) = (R1 ++ R2) ++ R3 by simp, csort_app (by omega) (R1 ++ R2) R3 (by simp only [List.length_append]; omega)]; simp
    · by_cases hm : a + bs < n
      · obtain ⟨R1, R2, rfl, hR1⟩ := cut_at R bs.toNat (by omega)
        simp only [List.length_append] at h3
        have hil1 := isort_length (le := le) R1
        have hil2 := isort_length (le := le) R2
        rw [csort_app (by omega) R1 _ hR1, csort_small (q := R2) (by omega)]
        have hC := eff_row ((sym_st u hcu hn cf sl blk hsl le c hc hcl ho (R1.length + R2.length) (kk + 1) A (isort le R1) (isort le R2) [] a (a + bs) n (by omega) (by omega) (by omega) (by omega) (by omega) (by omega) (isort_asc ho _) (isort_asc ho _) (by simp; omega))) (q := A ++ (isort le R1 ++ isort le R2)) (q' := csort le (bs * 2).toNat q) (by simp) (by rw [Int.mul_comm bs 2, ← h4, isort_append ho, csort_small (by simp only [List.length_append]; omega)]; simp)
        repeat' (first | (refine k_op1 ?_; (first | refine o_sv rfl (by decide) ?_ | (refine k_bin ?_; (first | refine o_val (v_mul (wi64 (by omega) (by omega))) rfl rfl (by decide) ?_ | refine o_val (v_add (wi64 (by omega) (by omega))) rfl rfl (by decide) ?_)) | (refine k_call ?_; (refine o_effr hC rfl rfl (bk1 hH2) (by decide) ?_)))) | (refine k_ops ?_; (first | refine o_go (by first | exact .inl rfl | exact .inr ⟨_, _, _, rfl, rfl, rfl⟩) ?_ | refine o_nil ?_)) | (refine k_run ?_; (first | refine r_seq ?_ | refine r_region ?_ | refine r_skip ?_ | refine r_block ?_ | refine r_inBlock ?_ | refine r_if rfl (fun _ => ?_) (fun _ => ?_) | refine r_exit rfl ?_)))
        all_goals try (exfalso; omega)
        exact r_less (ih2 (bs * 2) (by omega) (by omega)) rfl rfl
      · rw [show A ++ csort le bs.toNat R = csort le (bs * 2).toNat q by rw [Int.mul_comm bs 2, ← h4, csort_small (by omega), csort_small (by omega)]]
        repeat' (first | (refine k_op1 ?_; (first | refine o_sv rfl (by decide) ?_ | (refine k_bin ?_; (first | refine o_val (v_mul (wi64 (by omega) (by omega))) rfl rfl (by decide) ?_ | refine o_val (v_add (wi64 (by omega) (by omega))) rfl rfl (by decide) ?_)))) | (refine k_ops ?_; (first | refine o_go (by first | exact .inl rfl | exact .inr ⟨_, _, _, rfl, rfl, rfl⟩) ?_ | refine o_nil ?_)) | (refine k_run ?_; (first | refine r_seq ?_ | refine r_region ?_ | refine r_skip ?_ | refine r_block ?_ | refine r_inBlock ?_ | refine r_if rfl (fun _ => ?_) (fun _ => ?_) | refine r_exit rfl ?_)))
        all_goals try (exfalso; omega)
        exact r_less (ih2 (bs * 2) (by omega) (by omega)) rfl rfl
  · rw [csort_small (by omega)]
    repeat' (first | (refine k_op1 ?_; (first | refine o_sv rfl (by decide) ?_ | (refine k_bin ?_; (refine o_val (v_mul (wi64 (by omega) (by omega))) rfl rfl (by decide) ?_)))) | (refine k_ops ?_; (first | refine o_go (by first | exact .inl rfl | exact .inr ⟨_, _, _, rfl, rfl, rfl⟩) ?_ | refine o_nil ?_)) | (refine k_run ?_; (first | refine r_seq ?_ | refine r_region ?_ | refine r_skip ?_ | refine r_block ?_ | refine r_if rfl (fun _ => ?_) (fun _ => ?_) | refine r_exit rfl ?_)))
    all_goals try (exfalso; omega)
    refine r_giver 1000 0 1000 rfl rfl rfl ?_
    refine r_end Try.func57 _ (res_none rfl) ⟨rfl, ?_⟩
    rw [updL_one, upd_upd]
theorem srt_st {α : Type} (u : α → D) (hcu : ∀ x, cellsOf (.d (u x)) = some [.d (u x)]) (hn : ∀ x, allD [.d (u x)] = some [u x]) (cf : FuncId) (kk sl : Nat) (blk : Blk) (hsl : sl ≠ 1000) (le : α → α → Bool) (c : α → α → Int) (hc : ∀ x y, le x y = !decide (c y x < 0)) (hcl : ∀ (j : Nat) (x y : α), Eff1 Try.prog cf [.d (u x), .d (u y), .ptr (j, sl) 0] [((j, sl), blk)] [] (I .i64 (c x y))) (ho : Ord le) (q : List α) (hlen : q.length ≤ 1000000) :
    Eff1 Try.prog 46 [.ref (0, 1000), .fn (.func cf) [] [.ptr (kk, sl) 0]] [((0, 1000), .row 3 1 (q.map (fun x => [u x]))), ((kk, sl), blk)] [((0, 1000), .row 3 1 ((isort le q).map (fun x => [u x])))] (.tup []) := by
  refine eff_of fun H hH => ?_
  have hH0 := hH ((0, 1000), .row 3 1 (q.map (fun x => [u x]))) (by simp)
  have hH1 := hH ((kk, sl), blk) (by simp)
  have hH2 : (upd H (0, 1000) .gone) kk sl = some blk := upd_ne hH1 (by simp; intro _ h; exact hsl h)
  refine spec_of Try.func46 (by kernel_rfl) rfl (by simp) ?_
  dsimp only [Try.f46]
  refine r_taker 1000 0 1000 hH0 rfl rfl ?_
  have hC := stb_st u hcu hn cf (kk + 1) sl blk hsl le c hc hcl ho q (q.length : Int) rfl hlen
  repeat' (first | (refine k_op1 ?_; (first | refine o_sv rfl (by decide) ?_ | (refine k_blt ?_; (refine o_val (v_lenrm rfl) rfl rfl (by decide) ?_)) | (refine k_call ?_; (refine o_effr hC rfl rfl (bk1 hH2) (by decide) ?_)))) | (refine k_ops ?_; (first | refine o_go (by first | exact .inl rfl | exact .inr ⟨_, _, _, rfl, rfl, rfl⟩) ?_ | refine o_nil ?_)) | (refine k_run ?_; (refine r_region ?_)))
  refine r_giver 1000 0 1000 rfl rfl rfl ?_
  refine r_end Try.func46 _ (res_none rfl) ⟨rfl, ?_⟩
  rw [updL_one, upd_upd]
end Go.Proofs.Ytiapeheclfkdmaa
