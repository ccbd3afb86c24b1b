/- A part of the proof: G16, G17, G19, G20, G21, G30. -/
import Derived.Test.YtjmbjgecfpggdaaDoorRt
import Derived.Test.YtjmbjgecfpggdaaDoorRc
import Derived.Test.YtjmbjgecfpggdaaDoorRx
set_option linter.all false
set_option linter.unusedVariables false
set_option linter.unusedSimpArgs false
namespace Go.Proofs.YtjmbjgecfpggdaaDoor
open Go.Ab Go.Rx
set_option maxHeartbeats 20000000
set_option maxRecDepth 100000
set_option linter.unusedVariables false
set_option linter.unusedSimpArgs false
set_option linter.unusedSectionVars false
attribute [local irreducible] Run Ops Op1 Does Val Tr PureF Eff1 NF Rel EffV EffM
/-- a unit: the code point, its place, its size -/
abbrev Un := Int × Int × Int
abbrev unc (u : Un) : List D := [Di32 u.1, Dint u.2.1, Dint u.2.2]
def unF : Nat → List U → List Un
  | _, [] => []
  | i, u :: l => (u.r, (i : Int), (u.n : Int)) :: unF (i + u.n) l
/-- what becomes of a taker's state -/
def runU {σ : Type} (go : σ → Un → Bool) (stp : σ → Un → σ) : σ → List Un → σ
  | x, [] => x
  | x, u :: l => if go x u = true then runU go stp (stp x u) l else stp x u
theorem units_s (s : ByteArray) (H : Hf) (h1 : H 0 901 = some .gone) (q1 : QuietM H (0, 901)) :
    SpecV Tryd.prog 37 [S s] H ⟨fun r H' => r = .v (.fn (.func 48) [] [.ptr (0, 901) 0]) ∧ H' = upd H (0, 901) (.box [S s]), fun x => x = (0, 901) ∨ x = (0, 902), none⟩ := by
  refine specV_of Tryd.func37 (by kernel_rfl) rfl (by simp) ?_
  dsimp only [Tryd.f37]
  repeat' (first | (refine k_op1 ?_; (first | refine o_sv rfl (by decide) ?_ | (refine k_box ?_; (refine o_does (d_box rfl rfl rfl rfl rfl (by decide)) ?_)) | refine o_mkfn rfl rfl (by decide) ?_)) | (refine k_ops ?_; (first | refine o_go (by first | exact .inl rfl | exact .inr ⟨_, _, _, rfl, rfl, rfl⟩) ?_ | refine o_nil ?_)) | (refine k_run ?_; (first | refine r_seq ?_ | refine r_region ?_)))
  refine r_giveb 1 0 901 (q := .box [S s]) rfl rfl h1 (.inl rfl) (by simp [quietHp, Blk.says, PV.says, PV.saysL, PV.lift]) q1 ?_
  exact r_ret Tryd.func37 _ (res_fn (.fn (.func 48) [] [.ptr (0, 901) 0]) rfl rfl) ⟨rfl, rfl⟩
structure UnOK (s : ByteArray) (u : Un) : Prop where
  r0 : 0 ≤ u.1
  r1 : u.1 ≤ 1114111
  a0 : 0 ≤ u.2.1
  n1 : 1 ≤ u.2.2
  e : u.2.1 + u.2.2 ≤ s.size
theorem units1_s {σ : Type} (s : ByteArray) (hs : s.size ≤ 1000000) (ok : Int → σ → Prop) (go : σ → Un → Bool) (stp : σ → Un → σ) (W : σ → Hf) (hW : ∀ x, W x 0 901 = some (.box [S s]))
    (hok : ∀ x u, UnOK s u → ok u.2.1 x → go x u = true → ok (u.2.1 + u.2.2) (stp x u))
    (hY : ∀ (hp : Hp) (x : σ) (u : Un), quietHp (1, 5000) hp = true → ok u.2.1 x → UnOK s u → SpecY Tryd.prog (1, 999) [.d (.agg (unc u))] (push hp (W x)) (fun r H' => r = .v (B (go x u)) ∧ H' = push hp (W (stp x u))) (fun y => y = (1, 5000)))
    (x0 : σ) (h0 : ok 0 x0) : SpecV Tryd.prog 48 [.yl (0, 999), .ptr (0, 901) 0] (W x0) ⟨fun r H' => r = .v (.tup []) ∧ H' = W (runU go stp x0 (unF 0 (rst s 0))), fun x => x = (0, 5000), none⟩ := by
  refine specV_of Tryd.func48 (by kernel_rfl) rfl (by simp) ?_
  dsimp only [Tryd.f48]
  have hw0 := hW x0
  obtain ⟨T, hT⟩ : ∃ T, runU go stp x0 (unF 0 (rst s 0)) = T := ⟨_, rfl⟩
  rw [hT]
  repeat' (first | (refine k_op1 ?_; (first | (refine k_load ?_; (refine o_val (v_load (b := .box [S s]) rfl rfl rfl rfl) rfl (bkN hw0) (by decide) ?_)) | (refine k_store ?_; (refine o_store0 rfl rfl rfl rfl rfl rfl ?_)) | (refine k_alloc ?_; (refine o_does (d_alloc rfl rfl (by decide)) ?_)) | (refine k_build ?_; (refine o_build rfl rfl rfl rfl rfl rfl rfl (by decide) ?_)) | refine o_range rfl rfl rfl (by decide) ?_)) | (refine k_ops ?_; (first | refine o_go (by first | exact .inl rfl | exact .inr ⟨_, _, _, rfl, rfl, rfl⟩) ?_ | refine o_nil ?_)) | (refine k_run ?_; (first | refine r_seq ?_ | refine r_region ?_ | refine r_block ?_)))
  all_goals try (exfalso; omega)
  refine r_loop ?_
  refine r_less (r_inv (fun q : Nat × Int × Int × σ => ⟨42, [(0, .yl (1, 999)), (1, .ptr (1, 901) 0), (3, .ptr (0, 3) 0), (8, .ptr (0, 8) 0)], [(3, .box [I .i32 q.2.1, I .i64 q.2.2.1, I .i64 0]), (8, .siter s q.1)], W q.2.2.2⟩)
    (fun q => q.1 ≤ s.size ∧ (0 ≤ q.2.2.1 → ok q.2.2.1 q.2.2.2) ∧ ((q.1 = 0 ∧ q.2.2.1 = -1 ∧ q.2.2.2 = x0) ∨ (0 ≤ q.2.2.1 ∧ q.2.2.1 < q.1 ∧ 0 ≤ q.2.1 ∧ q.2.1 ≤ 1114111 ∧ runU go stp q.2.2.2 ((q.2.1, q.2.2.1, (q.1 : Int) - q.2.2.1) :: unF q.1 (rst s q.1)) = T))) (fun q => s.size - q.1) ?_ (0, 0, -1, x0) ⟨Nat.zero_le _, fun h => by simp at h, .inl ⟨rfl, rfl, rfl⟩⟩) rfl rfl
  rintro ⟨q, r, a, x⟩ ⟨i1, i2, i3⟩ ih
  simp only at i1 i2 i3 ih ⊢
  have hwx := hW x
  by_cases hlt : q < s.size
  · have hd := rst_lt hlt
    have hw := dec_w s q hlt
    have hdh := dec_hi s q
    rcases i3 with ⟨rfl, rfl, rfl⟩ | ⟨a0, a1, r0, r1, hrun⟩
    · have ih' := ih (0 + (Utf8.decode s 0).2, ((Utf8.decode s 0).1 : Nat), 0, x) ⟨by simp only; omega, fun _ => h0, .inr ⟨by simp, by simp only; omega, by simp only; omega, by simp only; omega, by
        rw [hd] at hT
        simp only [unF] at hT
        simp only [Int.sub_zero]
        rw [← hT]; simp⟩⟩ (by simp only; omega)
      repeat' (first | (refine k_op1 ?_; (first | refine o_sv rfl (by decide) ?_ | (refine k_load ?_; (refine o_val (v_load rfl rfl rfl rfl) rfl rfl (by decide) ?_)) | (refine k_field ?_; (refine o_val (v_field rfl rfl) rfl rfl (by decide) ?_)) | (refine k_bin ?_; (refine o_val (v_sub (wi64 (by omega) (by omega))) rfl rfl (by decide) ?_)) | (refine k_store ?_; (refine o_store0 rfl rfl rfl rfl rfl rfl ?_)) | (refine k_build ?_; (refine o_build rfl rfl rfl rfl rfl rfl rfl (by decide) ?_)) | refine o_next_more hlt rfl rfl (by decide) ?_)) | (refine k_ops ?_; (first | refine o_go (by first | exact .inl rfl | exact .inr ⟨_, _, _, rfl, rfl, rfl⟩) ?_ | refine o_nil ?_ | refine o_no rfl rfl (by decide) ?_)) | (refine k_run ?_; (first | refine r_seq ?_ | refine r_region ?_ | refine r_true rfl ?_ | refine r_false rfl ?_ | refine r_skip ?_ | refine r_block ?_ | refine r_inBlock ?_)))
      all_goals try (exfalso; omega)
      all_goals exact r_less ih' rfl rfl
    · have hu : UnOK s (r, a, (q : Int) - a) := ⟨r0, r1, a0, by simp only; omega, by simp only; omega⟩
      rw [runU] at hrun
      cases hg : go x (r, a, (q : Int) - a) with
      | true =>
        rw [if_pos hg] at hrun
        have hy : ∀ hp : Hp, quietHp (1, 5000) hp = true → SpecY Tryd.prog (1, 999) [.d (.agg (unc (r, a, (q : Int) - a)))] (push hp (W x)) (fun r' H' => r' = .v (B true) ∧ H' = push hp (W (stp x (r, a, (q : Int) - a)))) (fun y => y = (1, 5000)) := fun hp hqq => by
          have := hY hp x _ hqq (i2 a0) hu
          rwa [hg] at this
        have ih' := ih (q + (Utf8.decode s q).2, ((Utf8.decode s q).1 : Nat), (q : Nat), stp x (r, a, (q : Int) - a)) ⟨by simp only; omega, fun _ => by have := hok _ _ hu (i2 a0) hg; simp only at this; rwa [show a + ((q : Int) - a) = (q : Nat) by omega] at this, .inr ⟨by simp only; omega, by simp only; omega, by simp only; omega, by simp only; omega, by
          rw [hd] at hrun
          simp only [unF] at hrun
          rw [show ((q + (Utf8.decode s q).2 : Nat) : Int) - (q : Nat) = ((Utf8.decode s q).2 : Nat) by omega]
          exact hrun⟩⟩ (by simp only; omega)
        repeat' (first | (refine k_op1 ?_; (first | refine o_yieldf (mv := (0, 5000)) (hy _ (by rfl)) rfl rfl rfl rfl (by decide) ?_ | refine o_sv rfl (by decide) ?_ | (refine k_load ?_; (first | refine o_val (v_load rfl rfl rfl rfl) rfl rfl (by decide) ?_ | refine o_val (v_loadp rfl rfl rfl rfl) rfl rfl (by decide) ?_)) | (refine k_field ?_; (refine o_val (v_field rfl rfl) rfl rfl (by decide) ?_)) | (refine k_bin ?_; (refine o_val (v_sub (wi64 (by omega) (by omega))) rfl rfl (by decide) ?_)) | (refine k_store ?_; (refine o_store0 rfl rfl rfl rfl rfl rfl ?_)) | (refine k_build ?_; (refine o_build rfl rfl rfl rfl rfl rfl rfl (by decide) ?_)) | refine o_next_more hlt rfl rfl (by decide) ?_)) | (refine k_ops ?_; (first | refine o_go (by first | exact .inl rfl | exact .inr ⟨_, _, _, rfl, rfl, rfl⟩) ?_ | refine o_nil ?_ | refine o_no rfl rfl (by decide) ?_ | refine o_casep rfl rfl (fun _ => ?_) (fun _ => ?_))) | (refine k_run ?_; (first | refine r_seq ?_ | refine r_region ?_ | refine r_true rfl ?_ | refine r_false rfl ?_ | refine r_skip ?_ | refine r_block ?_ | refine r_inBlock ?_)))
        all_goals try (exfalso; omega)
        all_goals exact r_less ih' rfl rfl
      | false =>
        rw [if_neg (by rw [hg]; decide)] at hrun
        have hy : ∀ hp : Hp, quietHp (1, 5000) hp = true → SpecY Tryd.prog (1, 999) [.d (.agg (unc (r, a, (q : Int) - a)))] (push hp (W x)) (fun r' H' => r' = .v (B false) ∧ H' = push hp (W (stp x (r, a, (q : Int) - a)))) (fun y => y = (1, 5000)) := fun hp hqq => by
          have := hY hp x _ hqq (i2 a0) hu
          rwa [hg] at this
        repeat' (first | (refine k_op1 ?_; (first | refine o_yieldf (mv := (0, 5000)) (hy _ (by rfl)) rfl rfl rfl rfl (by decide) ?_ | refine o_sv rfl (by decide) ?_ | (refine k_load ?_; (first | refine o_val (v_load rfl rfl rfl rfl) rfl rfl (by decide) ?_ | refine o_val (v_loadp rfl rfl rfl rfl) rfl rfl (by decide) ?_)) | (refine k_field ?_; (refine o_val (v_field rfl rfl) rfl rfl (by decide) ?_)) | (refine k_bin ?_; (refine o_val (v_sub (wi64 (by omega) (by omega))) rfl rfl (by decide) ?_)) | (refine k_store ?_; (refine o_store0 rfl rfl rfl rfl rfl rfl ?_)) | (refine k_build ?_; (refine o_build rfl rfl rfl rfl rfl rfl rfl (by decide) ?_)) | refine o_next_more hlt rfl rfl (by decide) ?_)) | (refine k_ops ?_; (first | refine o_go (by first | exact .inl rfl | exact .inr ⟨_, _, _, rfl, rfl, rfl⟩) ?_ | refine o_nil ?_ | refine o_no rfl rfl (by decide) ?_ | refine o_casep rfl rfl (fun _ => ?_) (fun _ => ?_))) | (refine k_run ?_; (first | refine r_seq ?_ | refine r_region ?_ | refine r_true rfl ?_ | refine r_false rfl ?_ | refine r_skip ?_ | refine r_block ?_ | refine r_inBlock ?_)))
        all_goals try (exfalso; omega)
        all_goals exact r_ret Tryd.func48 _ (res_none rfl) ⟨rfl, congrArg W hrun⟩
  · obtain rfl : q = s.size := by omega
    have hd := rst_ge (s := s) (i := s.size) (Nat.le_refl _)
    rcases i3 with ⟨h1, rfl, rfl⟩ | ⟨a0, a1, r0, r1, hrun⟩
    · rw [← h1, hd] at hT
      simp only [unF, runU] at hT
      repeat' (first | (refine k_op1 ?_; (first | refine o_sv rfl (by decide) ?_ | (refine k_load ?_; (first | refine o_val (v_load (b := .box [S s]) rfl rfl rfl rfl) rfl (bkN hwx) (by decide) ?_ | refine o_val (v_load rfl rfl rfl rfl) rfl rfl (by decide) ?_)) | (refine k_field ?_; (refine o_val (v_field rfl rfl) rfl rfl (by decide) ?_)) | (refine k_bin ?_; (refine o_val (v_sub (wi64 (by omega) (by omega))) rfl rfl (by decide) ?_)) | (refine k_blt ?_; (refine o_val (v_lens rfl) rfl rfl (by decide) ?_)) | (refine k_store ?_; (refine o_store0 rfl rfl rfl rfl rfl rfl ?_)) | refine o_next_over hlt rfl rfl (by decide) ?_)) | (refine k_ops ?_; (first | refine o_go (by first | exact .inl rfl | exact .inr ⟨_, _, _, rfl, rfl, rfl⟩) ?_ | refine o_nil ?_)) | (refine k_run ?_; (first | refine r_seq ?_ | refine r_region ?_ | refine r_false rfl ?_ | refine r_skip ?_ | refine r_exit rfl ?_)))
      all_goals try (exfalso; omega)
      all_goals exact r_end Tryd.func48 _ (res_none rfl) ⟨rfl, congrArg W hT⟩
    · have hu : UnOK s (r, a, (s.size : Int) - a) := ⟨r0, r1, a0, by simp only; omega, by simp only; omega⟩
      rw [hd] at hrun
      simp only [unF, runU, ite_self] at hrun
      repeat' (first | (refine k_op1 ?_; (first | refine o_yieldf (mv := (0, 5000)) (hY _ x (r, a, (s.size : Int) - a) (by rfl) (i2 a0) hu) rfl rfl rfl rfl (by decide) ?_ | refine o_sv rfl (by decide) ?_ | (refine k_load ?_; (first | refine o_val (v_load (b := .box [S s]) rfl rfl rfl rfl) rfl (bkN hwx) (by decide) ?_ | refine o_val (v_load rfl rfl rfl rfl) rfl rfl (by decide) ?_ | refine o_val (v_loadp rfl rfl rfl rfl) rfl rfl (by decide) ?_)) | (refine k_field ?_; (refine o_val (v_field rfl rfl) rfl rfl (by decide) ?_)) | (refine k_bin ?_; (refine o_val (v_sub (wi64 (by omega) (by omega))) rfl rfl (by decide) ?_)) | (refine k_blt ?_; (refine o_val (v_lens rfl) rfl rfl (by decide) ?_)) | (refine k_store ?_; (refine o_store0 rfl rfl rfl rfl rfl rfl ?_)) | refine o_next_over hlt rfl rfl (by decide) ?_)) | (refine k_ops ?_; (first | refine o_go (by first | exact .inl rfl | exact .inr ⟨_, _, _, rfl, rfl, rfl⟩) ?_ | refine o_nil ?_)) | (refine k_run ?_; (first | refine r_seq ?_ | refine r_region ?_ | refine r_false rfl ?_ | refine r_skip ?_ | refine r_if rfl (fun _ => ?_) (fun _ => ?_) | refine r_exit rfl ?_)))
      all_goals try (exfalso; omega)
      all_goals exact r_end Tryd.func48 _ (res_none rfl) ⟨rfl, congrArg W hrun⟩
end Go.Proofs.YtjmbjgecfpggdaaDoor
namespace Go.Proofs.YtjmbjgecfpggdaaDoor
open Go.Ab Go.Rx
set_option maxHeartbeats 20000000
set_option maxRecDepth 100000
set_option linter.unusedVariables false
set_option linter.unusedSimpArgs false
set_option linter.unusedSectionVars false
attribute [local irreducible] Run Ops Op1 Does Val Tr PureF Eff1 NF Rel EffV EffM
theorem upd_push1 {hp : Hp} {up : Hf} (c : Nat) {q : Blk} : upd (push hp up) (0, c) q = push ((c, q) :: hp) up := by
  funext d s
  cases d with
  | zero =>
    simp only [upd, push, Ab.look, true_and]
    by_cases h1 : s = c
    · rw [if_pos h1, if_pos h1.symm]
    · rw [if_neg h1, if_neg (Ne.symm h1)]
  | succ d => simp [upd, push]
def atR (s : ByteArray) (i : Nat) : PV := match (unF 0 (rst s 0))[i]? with
  | some u => .tup [I .i32 u.1, I .i64 u.2.1, I .i64 u.2.2, B true]
  | none => .tup [I .i32 0, I .i64 0, I .i64 0, B false]
noncomputable def atAsg : Code := match Tryd.f20.body with | some (.seq _ (.seq (.seq _ (.block _ (.rangeFunc _ _ a _))) _)) => a | _ => .skip
noncomputable def atBody : Code := match Tryd.f20.body with | some (.seq _ (.seq (.seq _ (.block _ (.rangeFunc _ _ _ b))) _)) => b | _ => .skip
def atSt : List (Nat × PV) := [(3, .ptr (0, 3) 0), (4, .ptr (0, 4) 0), (5, .ptr (0, 5) 0), (6, .ptr (0, 6) 0), (7, .ptr (0, 7) 0)]
noncomputable def atLp (state : LoopState) (j : Option Code) : Blk := .lp 22 20 #[11] atAsg atBody atSt state j
inductive AtS where
  | run (i : Nat)
  | fin (u : Un)
noncomputable def atW (s : ByteArray) (H : Hf) : AtS → Hf
  | .run i => push [(999, atLp .ready none), (7, .box [B false]), (6, .box [I .i64 0]), (5, .box [I .i64 0]), (4, .box [I .i32 0]), (3, .box [I .i64 (i : Nat)]), (901, .box [S s])] H
  | .fin u => push [(999, atLp .done (some .ret)), (7, .box [B true]), (6, .box [I .i64 u.2.2]), (5, .box [I .i64 u.2.1]), (4, .box [I .i32 u.1]), (3, .box [I .i64 0]), (901, .box [S s])] H
def atGo : AtS → Un → Bool
  | .run 0, _ => false
  | .run (_ + 1), _ => true
  | .fin _, _ => false
def atStp : AtS → Un → AtS
  | .run 0, u => .fin u
  | .run (i + 1), _ => .run i
  | .fin v, _ => .fin v
def atOk : AtS → Prop
  | .run i => i ≤ 1000000
  | .fin _ => False
theorem at_run : ∀ (l : List Un) (i : Nat), runU atGo atStp (.run i) l = match l[i]? with | some u => .fin u | none => .run (i - l.length)
  | [], i => by simp [runU]
  | u :: l, 0 => by rw [runU, if_neg (by simp [atGo])]; rfl
  | u :: l, i + 1 => by
    rw [runU, if_pos (by rfl), show atStp (.run (i + 1)) u = .run i from rfl, at_run l i, List.getElem?_cons_succ, List.length_cons, show i + 1 - (l.length + 1) = i - l.length by omega]
theorem at_round (s : ByteArray) (H : Hf) (hp : Hp) (x : AtS) (u : Un) (hx : atOk x) : SpecY Tryd.prog (1, 999) [.d (.agg (unc u))] (push hp (atW s H x)) (fun r H' => r = .v (B (atGo x u)) ∧ H' = push hp (atW s H (atStp x u))) (fun y => y = (1, 5000)) := by
  match x, hx with
  | .run 0, _ =>
    refine y_of (n' := 22) (f' := 20) (t0 := 11) (asg := atAsg) (body := atBody) (st := atSt) (pend := none) (R2 := fun r H' => r = .v (B false) ∧ H' = upd (upd (upd (upd (upd (push hp (atW s H (.run 0))) (1, 999) (atLp .busy none)) (1, 4) (.box [I .i32 u.1])) (1, 5) (.box [I .i64 u.2.1])) (1, 6) (.box [I .i64 u.2.2])) (1, 7) (.box [B true])) rfl (by decide) (by simp) ?_ ?_ ?_ ?_
    · rw [show liftTm (1 + 1) atSt = [(3, .ptr (2, 3) 0), (4, .ptr (2, 4) 0), (5, .ptr (2, 5) 0), (6, .ptr (2, 6) 0), (7, .ptr (2, 7) 0)] by simp [atSt, liftTm, PV.lift]]
      dsimp only [atAsg, atBody, Tryd.f20]
      have hb3 : upd (push hp (atW s H (.run 0))) (1, 999) (atLp .busy none) 1 3 = some (.box [I .i64 0]) := rfl
      repeat' (first | (refine k_op1 ?_; (first | (refine k_store ?_; (refine o_store0 rfl rfl rfl rfl rfl rfl ?_)) | (refine k_alloc ?_; (refine o_does (d_alloc rfl rfl (by decide)) ?_)))) | (refine k_ops ?_; (first | refine o_go (by first | exact .inl rfl | exact .inr ⟨_, _, _, rfl, rfl, rfl⟩) ?_ | refine o_nil ?_)) | (refine k_run ?_; (refine r_region ?_)))
      refine r_begin rfl rfl ?_
      change Run _ _ _ _ ⟨_, _, _, upd (push hp (atW s H (.run 0))) (1, 999) (atLp .busy none)⟩
      have hb4 : upd (push hp (atW s H (.run 0))) (1, 999) (atLp .busy none) 1 4 = some (.box [I .i32 0]) := rfl
      have hb5 : upd (push hp (atW s H (.run 0))) (1, 999) (atLp .busy none) 1 5 = some (.box [I .i64 0]) := rfl
      have hb6 : upd (push hp (atW s H (.run 0))) (1, 999) (atLp .busy none) 1 6 = some (.box [I .i64 0]) := rfl
      have hb7 : upd (push hp (atW s H (.run 0))) (1, 999) (atLp .busy none) 1 7 = some (.box [B false]) := rfl
      generalize upd (push hp (atW s H (.run 0))) (1, 999) (atLp .busy none) = V at *
      repeat' (first | (refine k_op1 ?_; (first | refine o_sv rfl (by decide) ?_ | (refine k_load ?_; (refine o_val (v_load (b := .box [I .i64 0]) rfl rfl rfl rfl) rfl (bkN hb3) (by decide) ?_)))) | (refine k_ops ?_; (first | refine o_go (by first | exact .inl rfl | exact .inr ⟨_, _, _, rfl, rfl, rfl⟩) ?_ | refine o_nil ?_)) | (refine k_run ?_; (first | refine r_seq ?_ | refine r_region ?_ | refine r_true rfl ?_ | refine r_block ?_ | refine r_tr ?_)) | (refine k_tr ?_; (first | (refine kt_end ?_; refine t_end mix (by kernel_rfl) ?_) | (refine kt_load ?_; (refine t_val (v_load rfl rfl rfl rfl) (by first | exact rfl | exact ⟨_, rfl, rfl, rfl⟩) rfl rfl (by decide) ?_)) | (refine kt_field ?_; (refine t_val (v_field rfl rfl) (by first | exact rfl | exact ⟨_, rfl, rfl, rfl⟩) rfl rfl (by decide) ?_)) | (refine kt_store ?_; (first | refine t_storeu (raw' := .box [B true]) (by first | exact rfl | exact ⟨_, rfl, rfl, rfl⟩) rfl (upd_ne (upd_ne (upd_ne hb7 (by simp)) (by simp)) (by simp)) rfl rfl rfl rfl rfl rfl ?_ | refine t_storeu (raw' := .box [I .i64 u.2.2]) (by first | exact rfl | exact ⟨_, rfl, rfl, rfl⟩) rfl (upd_ne (upd_ne hb6 (by simp)) (by simp)) rfl rfl rfl rfl rfl rfl ?_ | refine t_storeu (raw' := .box [I .i64 u.2.1]) (by first | exact rfl | exact ⟨_, rfl, rfl, rfl⟩) rfl (upd_ne hb5 (by simp)) rfl rfl rfl rfl rfl rfl ?_ | refine t_storeu (raw' := .box [I .i32 u.1]) (by first | exact rfl | exact ⟨_, rfl, rfl, rfl⟩) rfl hb4 rfl rfl rfl rfl rfl rfl ?_)))))
      all_goals try (exfalso; omega)
      all_goals exact r_round_ret rfl ⟨rfl, rfl⟩
    · rintro H' ⟨h, _⟩; cases h
    · rintro H' ⟨_, rfl⟩
      refine ⟨atSt, none, upd_ne (upd_ne (upd_ne (upd_ne (upd_same _ _ _) (by simp)) (by simp)) (by simp)) (by simp), rfl, ?_⟩
      funext d t
      match d with
      | 0 => rfl
      | d + 2 => rfl
      | 1 =>
        by_cases h1 : t = 999
        · subst h1; rfl
        by_cases h2 : t = 7
        · subst h2; rfl
        by_cases h3 : t = 6
        · subst h3; rfl
        by_cases h4 : t = 5
        · subst h4; rfl
        by_cases h5 : t = 4
        · subst h5; rfl
        have k1 := Ne.symm h1
        have k2 := Ne.symm h2
        have k3 := Ne.symm h3
        have k4 := Ne.symm h4
        have k5 := Ne.symm h5
        simp [upd, push, atW, atStp, Ab.look, h1, h2, h3, h4, h5, k1, k2, k3, k4, k5]
    · rintro id H' ⟨h, _⟩; cases h
  | .run (i + 1), h =>
    have hi : i + 1 ≤ 1000000 := h
    refine y_of (n' := 22) (f' := 20) (t0 := 11) (asg := atAsg) (body := atBody) (st := atSt) (pend := none) (R2 := fun r H' => r = .v (B true) ∧ H' = upd (upd (push hp (atW s H (.run (i + 1)))) (1, 999) (atLp .busy none)) (1, 3) (.box [I .i64 (i : Nat)])) rfl (by decide) (by simp) ?_ ?_ ?_ ?_
    · rw [show liftTm (1 + 1) atSt = [(3, .ptr (2, 3) 0), (4, .ptr (2, 4) 0), (5, .ptr (2, 5) 0), (6, .ptr (2, 6) 0), (7, .ptr (2, 7) 0)] by simp [atSt, liftTm, PV.lift]]
      dsimp only [atAsg, atBody, Tryd.f20]
      repeat' (first | (refine k_op1 ?_; (first | (refine k_store ?_; (refine o_store0 rfl rfl rfl rfl rfl rfl ?_)) | (refine k_alloc ?_; (refine o_does (d_alloc rfl rfl (by decide)) ?_)))) | (refine k_ops ?_; (first | refine o_go (by first | exact .inl rfl | exact .inr ⟨_, _, _, rfl, rfl, rfl⟩) ?_ | refine o_nil ?_)) | (refine k_run ?_; (refine r_region ?_)))
      refine r_begin rfl rfl ?_
      change Run _ _ _ _ ⟨_, _, _, upd (push hp (atW s H (.run (i + 1)))) (1, 999) (atLp .busy none)⟩
      have hb3 : upd (push hp (atW s H (.run (i + 1)))) (1, 999) (atLp .busy none) 1 3 = some (.box [I .i64 ((i + 1 : Nat) : Int)]) := rfl
      generalize upd (push hp (atW s H (.run (i + 1)))) (1, 999) (atLp .busy none) = V at *
      repeat' (first | (refine k_op1 ?_; (first | refine o_sv rfl (by decide) ?_ | (refine k_load ?_; (refine o_val (v_load (b := .box [I .i64 ((i + 1 : Nat) : Int)]) rfl rfl rfl rfl) rfl (bkN hb3) (by decide) ?_)) | (refine k_bin ?_; (refine o_val (v_sub (wi64 (by omega) (by omega))) rfl rfl (by decide) ?_)) | (refine k_store ?_; (refine o_storeu (raw' := .box [I .i64 (((i + 1 : Nat) : Int) - 1)]) rfl hb3 rfl rfl rfl rfl rfl rfl ?_)))) | (refine k_ops ?_; (first | refine o_go (by first | exact .inl rfl | exact .inr ⟨_, _, _, rfl, rfl, rfl⟩) ?_ | refine o_nil ?_)) | (refine k_run ?_; (first | refine r_seq ?_ | refine r_region ?_ | refine r_false rfl ?_ | refine r_skip ?_ | refine r_block ?_ | refine r_inBlock ?_)))
      all_goals try (exfalso; omega)
      all_goals (rw [show ((i + 1 : Nat) : Int) - 1 = (i : Nat) by omega]; exact r_round rfl ⟨rfl, rfl⟩)
    · rintro H' ⟨_, rfl⟩
      refine ⟨atSt, none, upd_ne (upd_same _ _ _) (by simp), rfl, ?_⟩
      funext d t
      match d with
      | 0 => rfl
      | d + 2 => rfl
      | 1 =>
        by_cases h1 : t = 999
        · subst h1; rfl
        by_cases h2 : t = 7
        · subst h2; rfl
        by_cases h3 : t = 6
        · subst h3; rfl
        by_cases h4 : t = 5
        · subst h4; rfl
        by_cases h5 : t = 4
        · subst h5; rfl
        by_cases h6 : t = 3
        · subst h6; rfl
        have k1 := Ne.symm h1
        have k2 := Ne.symm h2
        have k3 := Ne.symm h3
        have k4 := Ne.symm h4
        have k5 := Ne.symm h5
        have k6 := Ne.symm h6
        simp [upd, push, atW, atStp, Ab.look, h1, h2, h3, h4, h5, h6, k1, k2, k3, k4, k5, k6]
    · rintro H' ⟨h, _⟩; cases h
    · rintro id H' ⟨h, _⟩; cases h
theorem at_s (s : ByteArray) (hs : s.size ≤ 1000000) (i : Nat) (hi : i ≤ 1000000) : PureF Tryd.prog 20 [S s, I .i64 (i : Nat)] (atR s i) := by
  refine pure_of fun H => ?_
  refine spec_of Tryd.func20 (by kernel_rfl) rfl (by simp) ?_
  dsimp only [Tryd.f20]
  refine r_forget 901 ?_
  have h37 : ∀ (hp : Hp), Ab.look hp 901 = some Blk.gone → quietHp (0, 901) hp = true → SpecV Tryd.prog 37 [S s] (push hp H) ⟨fun r H' => r = .v (.fn (.func 48) [] [.ptr (0, 901) 0]) ∧ H' = push ((901, .box [S s]) :: hp) H, fun x => x = (0, 901) ∨ x = (0, 902), none⟩ := by
    intro hp h1 q1
    have qq : ∀ x, quietHp (0, x) hp = true → QuietM (push hp H) (0, x) := fun x q e t b he hb => by
      obtain rfl : e = 0 := by simp at he; omega
      exact quietHp_get q hb
    have := units_s s (push hp H) h1 (qq 901 q1)
    rw [upd_push1] at this
    exact this
  repeat' (first | (refine k_op1 ?_; (first | refine o_spec2 (h37 _ rfl rfl) rfl rfl rfl (by decide) ?_ | refine o_sv rfl (by decide) ?_ | (refine k_alloc ?_; (refine o_does (d_alloc rfl rfl (by decide)) ?_)) | (refine k_box ?_; (refine o_does (d_box rfl rfl rfl rfl rfl (by decide)) ?_)))) | (refine k_ops ?_; (first | refine o_go (by first | exact .inl rfl | exact .inr ⟨_, _, _, rfl, rfl, rfl⟩) ?_ | refine o_nil ?_)) | (refine k_run ?_; (first | refine r_seq ?_ | refine r_region ?_ | refine r_block ?_)))
  all_goals try (exfalso; omega)
  refine r_less (tm' := [(3, .ptr (0, 3) 0), (4, .ptr (0, 4) 0), (5, .ptr (0, 5) 0), (6, .ptr (0, 6) 0), (7, .ptr (0, 7) 0), (10, .fn (.func 48) [] [.ptr (0, 901) 0])]) (hp' := [(7, .box [B false]), (6, .box [I .i64 0]), (5, .box [I .i64 0]), (4, .box [I .i32 0]), (3, .box [I .i64 (i : Nat)]), (901, .box [S s])]) ?_ rfl rfl
  have hsp := units1_s s hs (fun _ => atOk) atGo atStp (atW s H) (fun x => by cases x <;> rfl) (fun x u _ h1 h2 => by
    match x, h1, h2 with
    | .run (i + 1), h1, _ => have h1 : i + 1 ≤ 1000000 := h1; show i ≤ 1000000; omega) (fun hp x u _ h1 h2 => at_round s H hp x u h1) (.run i) hi
  refine r_rangeFunc 999 5000 atSt rfl rfl rfl rfl rfl hsp (fun m h => h) ?_
  rintro r H2 ⟨_, rfl⟩
  rw [at_run, atR]
  cases (unF 0 (rst s 0))[i]? with
  | some u =>
    refine ⟨.done, some .ret, atSt, _, H, rfl, by simp, ?_⟩
    exact r_ret Tryd.func20 _ (res_cell4 rfl rfl rfl rfl rfl rfl rfl rfl rfl rfl rfl rfl rfl rfl rfl rfl rfl) ⟨rfl, rfl⟩
  | none =>
    refine ⟨.ready, none, atSt, _, H, rfl, by simp, ?_⟩
    refine r_less (tm' := [(3, .ptr (0, 3) 0), (4, .ptr (0, 4) 0), (5, .ptr (0, 5) 0), (6, .ptr (0, 6) 0), (7, .ptr (0, 7) 0)]) (hp' := [(7, .box [B false]), (6, .box [I .i64 0]), (5, .box [I .i64 0]), (4, .box [I .i32 0])]) ?_ rfl rfl
    repeat' (first | (refine k_op1 ?_; ((refine k_store ?_; (refine o_store0 rfl rfl rfl rfl rfl rfl ?_)))) | (refine k_ops ?_; (first | refine o_go (by first | exact .inl rfl | exact .inr ⟨_, _, _, rfl, rfl, rfl⟩) ?_ | refine o_nil ?_)) | (refine k_run ?_; (first | refine r_seq ?_ | refine r_region ?_ | refine r_inBlock ?_)))
    all_goals try (exfalso; omega)
    all_goals exact r_ret Tryd.func20 _ (res_cell4 rfl rfl rfl rfl rfl rfl rfl rfl rfl rfl rfl rfl rfl rfl rfl rfl rfl) ⟨rfl, rfl⟩
end Go.Proofs.YtjmbjgecfpggdaaDoor
namespace Go.Proofs.YtjmbjgecfpggdaaDoor
open Go.Ab Go.Rx
set_option maxHeartbeats 20000000
set_option maxRecDepth 100000
set_option linter.unusedVariables false
set_option linter.unusedSimpArgs false
set_option linter.unusedSectionVars false
attribute [local irreducible] Run Ops Op1 Does Val Tr PureF Eff1 NF Rel EffV EffM
def okU (u : Un) : Bool := !decide (u.1 = 65533) || decide (u.2.2 = 3)
theorem uvalid_s (u : Un) : PureF Tryd.prog 56 [.d (.agg (unc u))] (B (okU u)) := by
  refine pure_of fun H => ?_
  refine spec_of Tryd.func56 (by kernel_rfl) rfl (by simp) ?_
  dsimp only [Tryd.f56]
  rw [okU]
  by_cases h : u.1 = 65533
  · rw [decide_eq_true h, Bool.not_true, Bool.false_or]
    repeat' (first | (refine k_op1 ?_; (first | refine o_sv rfl (by decide) ?_ | (refine k_load ?_; (refine o_val (v_load rfl rfl rfl rfl) rfl rfl (by decide) ?_)) | (refine k_field ?_; (refine o_val (v_field rfl rfl) rfl rfl (by decide) ?_)) | (refine k_box ?_; (refine o_does (d_box_d rfl rfl (by decide)) ?_)))) | (refine k_ops ?_; (first | refine o_go (by first | exact .inl rfl | exact .inr ⟨_, _, _, rfl, rfl, rfl⟩) ?_ | refine o_nil ?_ | refine o_no rfl rfl (by decide) ?_ | refine o_casen rfl rfl (fun _ => ?_) (fun _ => ?_))) | (refine k_run ?_; (first | refine r_seq ?_ | refine r_region ?_)))
    all_goals try (exfalso; omega)
    all_goals exact r_ret Tryd.func56 _ (res_one rfl rfl) ⟨rfl, rfl⟩
  · rw [decide_eq_false h, Bool.not_false, Bool.true_or]
    repeat' (first | (refine k_op1 ?_; (first | refine o_sv rfl (by decide) ?_ | (refine k_load ?_; (refine o_val (v_load rfl rfl rfl rfl) rfl rfl (by decide) ?_)) | (refine k_field ?_; (refine o_val (v_field rfl rfl) rfl rfl (by decide) ?_)) | (refine k_box ?_; (refine o_does (d_box_d rfl rfl (by decide)) ?_)))) | (refine k_ops ?_; (first | refine o_go (by first | exact .inl rfl | exact .inr ⟨_, _, _, rfl, rfl, rfl⟩) ?_ | refine o_nil ?_ | refine o_no rfl rfl (by decide) ?_ | refine o_casen rfl rfl (fun _ => ?_) (fun _ => ?_))) | (refine k_run ?_; (first | refine r_seq ?_ | refine r_region ?_)))
    all_goals try (exfalso; omega)
    all_goals exact r_ret Tryd.func56 _ (res_one rfl rfl) ⟨rfl, rfl⟩
noncomputable def vaAsg : Code := match Tryd.f44.body with | some (.seq _ (.seq (.seq _ (.block _ (.rangeFunc _ _ a _))) _)) => a | _ => .skip
noncomputable def vaBody : Code := match Tryd.f44.body with | some (.seq _ (.seq (.seq _ (.block _ (.rangeFunc _ _ _ b))) _)) => b | _ => .skip
def vaSt : List (Nat × PV) := [(2, .ptr (0, 2) 0)]
noncomputable def vaLp (state : LoopState) (j : Option Code) : Blk := .lp 10 44 #[6] vaAsg vaBody vaSt state j
/-- still reading, or not any more -/
noncomputable def vaW (s : ByteArray) (H : Hf) : Bool → Hf
  | true => push [(999, vaLp .ready none), (2, .box [B false]), (901, .box [S s])] H
  | false => push [(999, vaLp .done (some .ret)), (2, .box [B false]), (901, .box [S s])] H
theorem va_run : ∀ l : List Un, runU (fun (_ : Bool) u => okU u) (fun _ u => okU u) true l = l.all okU
  | [] => rfl
  | u :: l => by
    rw [runU, List.all_cons]
    cases h : okU u with
    | true => rw [if_pos rfl, va_run l]; rfl
    | false => rw [if_neg (by decide)]; rfl
theorem va_round (s : ByteArray) (H : Hf) (hp : Hp) (u : Un) : SpecY Tryd.prog (1, 999) [.d (.agg (unc u))] (push hp (vaW s H true)) (fun r H' => r = .v (B (okU u)) ∧ H' = push hp (vaW s H (okU u))) (fun y => y = (1, 5000)) := by
  have huv := uvalid_s u
  cases ho : okU u with
  | false =>
    rw [ho] at huv
    refine y_of (n' := 10) (f' := 44) (t0 := 6) (asg := vaAsg) (body := vaBody) (st := vaSt) (pend := none) (R2 := fun r H' => r = .v (B false) ∧ H' = upd (upd (push hp (vaW s H true)) (1, 999) (vaLp .busy none)) (1, 2) (.box [B false])) rfl (by decide) (by simp) ?_ ?_ ?_ ?_
    · rw [show liftTm (1 + 1) vaSt = [(2, .ptr (2, 2) 0)] by simp [vaSt, liftTm, PV.lift]]
      dsimp only [vaAsg, vaBody, Tryd.f44]
      repeat' (first | (refine k_op1 ?_; (first | (refine k_store ?_; (refine o_store0 rfl rfl rfl rfl rfl rfl ?_)) | (refine k_alloc ?_; (refine o_does (d_alloc rfl rfl (by decide)) ?_)))) | (refine k_ops ?_; (first | refine o_go (by first | exact .inl rfl | exact .inr ⟨_, _, _, rfl, rfl, rfl⟩) ?_ | refine o_nil ?_)) | (refine k_run ?_; (refine r_region ?_)))
      refine r_begin rfl rfl ?_
      change Run _ _ _ _ ⟨_, _, _, upd (push hp (vaW s H true)) (1, 999) (vaLp .busy none)⟩
      have hb2 : upd (push hp (vaW s H true)) (1, 999) (vaLp .busy none) 1 2 = some (.box [B false]) := rfl
      generalize upd (push hp (vaW s H true)) (1, 999) (vaLp .busy none) = V at *
      repeat' (first | (refine k_op1 ?_; (first | refine o_sv rfl (by decide) ?_ | (refine k_load ?_; (refine o_val (v_loadp rfl rfl rfl rfl) rfl rfl (by decide) ?_)) | (refine k_call ?_; (refine o_fn huv rfl (by decide) ?_)) | (refine k_store ?_; (refine o_storeu (raw' := .box [B false]) rfl hb2 rfl rfl rfl rfl rfl rfl ?_)))) | (refine k_ops ?_; (first | refine o_go (by first | exact .inl rfl | exact .inr ⟨_, _, _, rfl, rfl, rfl⟩) ?_ | refine o_nil ?_)) | (refine k_run ?_; (first | refine r_seq ?_ | refine r_region ?_ | refine r_true rfl ?_ | refine r_block ?_)))
      all_goals try (exfalso; omega)
      all_goals exact r_round_ret rfl ⟨rfl, rfl⟩
    · rintro H' ⟨h, _⟩; cases h
    · rintro H' ⟨_, rfl⟩
      refine ⟨vaSt, none, upd_ne (upd_same _ _ _) (by simp), rfl, ?_⟩
      funext d t
      match d with
      | 0 => rfl
      | d + 2 => rfl
      | 1 =>
        by_cases h1 : t = 999
        · subst h1; rfl
        by_cases h2 : t = 2
        · subst h2; rfl
        have k1 := Ne.symm h1
        have k2 := Ne.symm h2
        simp [upd, push, vaW, Ab.look, h1, h2, k1, k2]
    · rintro id H' ⟨h, _⟩; cases h
  | true =>
    rw [ho] at huv
    refine y_of (n' := 10) (f' := 44) (t0 := 6) (asg := vaAsg) (body := vaBody) (st := vaSt) (pend := none) (R2 := fun r H' => r = .v (B true) ∧ H' = upd (push hp (vaW s H true)) (1, 999) (vaLp .busy none)) rfl (by decide) (by simp) ?_ ?_ ?_ ?_
    · rw [show liftTm (1 + 1) vaSt = [(2, .ptr (2, 2) 0)] by simp [vaSt, liftTm, PV.lift]]
      dsimp only [vaAsg, vaBody, Tryd.f44]
      repeat' (first | (refine k_op1 ?_; (first | (refine k_store ?_; (refine o_store0 rfl rfl rfl rfl rfl rfl ?_)) | (refine k_alloc ?_; (refine o_does (d_alloc rfl rfl (by decide)) ?_)))) | (refine k_ops ?_; (first | refine o_go (by first | exact .inl rfl | exact .inr ⟨_, _, _, rfl, rfl, rfl⟩) ?_ | refine o_nil ?_)) | (refine k_run ?_; (refine r_region ?_)))
      refine r_begin rfl rfl ?_
      change Run _ _ _ _ ⟨_, _, _, upd (push hp (vaW s H true)) (1, 999) (vaLp .busy none)⟩
      generalize upd (push hp (vaW s H true)) (1, 999) (vaLp .busy none) = V at *
      repeat' (first | (refine k_op1 ?_; (first | refine o_sv rfl (by decide) ?_ | (refine k_load ?_; (refine o_val (v_loadp rfl rfl rfl rfl) rfl rfl (by decide) ?_)) | (refine k_call ?_; (refine o_fn huv rfl (by decide) ?_)))) | (refine k_ops ?_; (first | refine o_go (by first | exact .inl rfl | exact .inr ⟨_, _, _, rfl, rfl, rfl⟩) ?_ | refine o_nil ?_)) | (refine k_run ?_; (first | refine r_seq ?_ | refine r_region ?_ | refine r_false rfl ?_ | refine r_skip ?_ | refine r_block ?_ | refine r_inBlock ?_)))
      all_goals try (exfalso; omega)
      all_goals exact r_round rfl ⟨rfl, rfl⟩
    · rintro H' ⟨_, rfl⟩
      refine ⟨vaSt, none, upd_same _ _ _, rfl, ?_⟩
      funext d t
      match d with
      | 0 => rfl
      | d + 2 => rfl
      | 1 =>
        by_cases h1 : t = 999
        · subst h1; rfl
        have k1 := Ne.symm h1
        simp [upd, push, vaW, Ab.look, h1, k1]
    · rintro H' ⟨h, _⟩; cases h
    · rintro id H' ⟨h, _⟩; cases h
theorem valid_s (s : ByteArray) (hs : s.size ≤ 1000000) : PureF Tryd.prog 44 [S s] (B ((unF 0 (rst s 0)).all okU)) := by
  refine pure_of fun H => ?_
  refine spec_of Tryd.func44 (by kernel_rfl) rfl (by simp) ?_
  dsimp only [Tryd.f44]
  refine r_forget 901 ?_
  have h37 : ∀ (hp : Hp), Ab.look hp 901 = some Blk.gone → quietHp (0, 901) hp = true → SpecV Tryd.prog 37 [S s] (push hp H) ⟨fun r H' => r = .v (.fn (.func 48) [] [.ptr (0, 901) 0]) ∧ H' = push ((901, .box [S s]) :: hp) H, fun x => x = (0, 901) ∨ x = (0, 902), none⟩ := by
    intro hp h1 q1
    have qq : ∀ x, quietHp (0, x) hp = true → QuietM (push hp H) (0, x) := fun x q e t b he hb => by
      obtain rfl : e = 0 := by simp at he; omega
      exact quietHp_get q hb
    have := units_s s (push hp H) h1 (qq 901 q1)
    rw [upd_push1] at this
    exact this
  repeat' (first | (refine k_op1 ?_; (first | refine o_spec2 (h37 _ rfl rfl) rfl rfl rfl (by decide) ?_ | refine o_sv rfl (by decide) ?_ | (refine k_alloc ?_; (refine o_does (d_alloc rfl rfl (by decide)) ?_)))) | (refine k_ops ?_; (first | refine o_go (by first | exact .inl rfl | exact .inr ⟨_, _, _, rfl, rfl, rfl⟩) ?_ | refine o_nil ?_)) | (refine k_run ?_; (first | refine r_seq ?_ | refine r_region ?_ | refine r_block ?_)))
  all_goals try (exfalso; omega)
  refine r_less (tm' := [(2, .ptr (0, 2) 0), (5, .fn (.func 48) [] [.ptr (0, 901) 0])]) (hp' := [(2, .box [B false]), (901, .box [S s])]) ?_ rfl rfl
  have hsp := units1_s s hs (fun _ b => b = true) (fun (_ : Bool) u => okU u) (fun _ u => okU u) (vaW s H) (fun x => by cases x <;> rfl) (fun x u _ h1 h2 => h2) (fun hp x u _ h1 h2 => by subst h1; exact va_round s H hp u) true rfl
  refine r_rangeFunc 999 5000 vaSt rfl rfl rfl rfl rfl hsp (fun m h => h) ?_
  rintro r H2 ⟨_, rfl⟩
  rw [va_run]
  cases (unF 0 (rst s 0)).all okU with
  | false =>
    refine ⟨.done, some .ret, vaSt, _, H, rfl, by simp, ?_⟩
    exact r_ret Tryd.func44 _ (res_cell1 rfl rfl rfl rfl rfl) ⟨rfl, rfl⟩
  | true =>
    refine ⟨.ready, none, vaSt, _, H, rfl, by simp, ?_⟩
    refine r_less (tm' := [(2, .ptr (0, 2) 0)]) (hp' := [(2, .box [B false])]) ?_ rfl rfl
    repeat' (first | (refine k_op1 ?_; ((refine k_store ?_; (refine o_store0 rfl rfl rfl rfl rfl rfl ?_)))) | (refine k_ops ?_; (first | refine o_go (by first | exact .inl rfl | exact .inr ⟨_, _, _, rfl, rfl, rfl⟩) ?_ | refine o_nil ?_)) | (refine k_run ?_; (first | refine r_seq ?_ | refine r_region ?_ | refine r_inBlock ?_)))
    all_goals try (exfalso; omega)
    all_goals exact r_ret Tryd.func44 _ (res_cell1 rfl rfl rfl rfl rfl) ⟨rfl, rfl⟩
end Go.Proofs.YtjmbjgecfpggdaaDoor
namespace Go.Proofs.YtjmbjgecfpggdaaDoor
open Go.Ab Go.Rx
set_option maxHeartbeats 20000000
set_option maxRecDepth 100000
set_option linter.unusedVariables false
set_option linter.unusedSimpArgs false
set_option linter.unusedSectionVars false
attribute [local irreducible] Run Ops Op1 Does Val Tr PureF Eff1 NF Rel EffV EffM
theorem lower_s (r : Int) (h0 : 0 ≤ r) (h1 : r ≤ 1114111) : PureF Tryd.prog 38 [I .i32 r] (I .i32 (lowF r)) := by
  refine pure_of fun H => ?_
  refine spec_of Tryd.func38 (by kernel_rfl) rfl (by simp) ?_
  dsimp only [Tryd.f38]
  rw [lowF]
  by_cases hc : capU r
  · rw [if_pos hc]
    rw [capU] at hc
    repeat' (first | (refine k_op1 ?_; (first | refine o_sv rfl (by decide) ?_ | (refine k_bin ?_; (refine o_val (v_add (wi32 (by omega) (by omega))) rfl rfl (by decide) ?_)))) | (refine k_ops ?_; (first | refine o_go (by first | exact .inl rfl | exact .inr ⟨_, _, _, rfl, rfl, rfl⟩) ?_ | refine o_nil ?_ | refine o_no rfl rfl (by decide) ?_ | refine o_casep rfl rfl (fun _ => ?_) (fun _ => ?_))) | (refine k_run ?_; (first | refine r_seq ?_ | refine r_region ?_ | refine r_false rfl ?_ | refine r_skip ?_ | refine r_block ?_ | refine r_inBlock ?_ | refine r_if rfl (fun _ => ?_) (fun _ => ?_) | refine r_ifn rfl (fun _ => ?_) (fun _ => ?_))))
    all_goals try (exfalso; omega)
    all_goals exact r_ret Tryd.func38 _ (res_one rfl rfl) ⟨rfl, rfl⟩
  · rw [if_neg hc]
    rw [capU] at hc
    by_cases hd : 1024 ≤ r ∧ r ≤ 1039
    · rw [if_pos hd]
      repeat' (first | (refine k_op1 ?_; (first | refine o_sv rfl (by decide) ?_ | (refine k_bin ?_; (refine o_val (v_add (wi32 (by omega) (by omega))) rfl rfl (by decide) ?_)))) | (refine k_ops ?_; (first | refine o_go (by first | exact .inl rfl | exact .inr ⟨_, _, _, rfl, rfl, rfl⟩) ?_ | refine o_nil ?_ | refine o_no rfl rfl (by decide) ?_ | refine o_casep rfl rfl (fun _ => ?_) (fun _ => ?_))) | (refine k_run ?_; (first | refine r_seq ?_ | refine r_region ?_ | refine r_false rfl ?_ | refine r_skip ?_ | refine r_block ?_ | refine r_inBlock ?_ | refine r_if rfl (fun _ => ?_) (fun _ => ?_) | refine r_ifn rfl (fun _ => ?_) (fun _ => ?_))))
      all_goals try (exfalso; omega)
      all_goals exact r_ret Tryd.func38 _ (res_one rfl rfl) ⟨rfl, rfl⟩
    · rw [if_neg hd]
      repeat' (first | (refine k_op1 ?_; (first | refine o_sv rfl (by decide) ?_ | (refine k_bin ?_; (refine o_val (v_add (wi32 (by omega) (by omega))) rfl rfl (by decide) ?_)))) | (refine k_ops ?_; (first | refine o_go (by first | exact .inl rfl | exact .inr ⟨_, _, _, rfl, rfl, rfl⟩) ?_ | refine o_nil ?_ | refine o_no rfl rfl (by decide) ?_ | refine o_casep rfl rfl (fun _ => ?_) (fun _ => ?_))) | (refine k_run ?_; (first | refine r_seq ?_ | refine r_region ?_ | refine r_false rfl ?_ | refine r_skip ?_ | refine r_block ?_ | refine r_inBlock ?_ | refine r_if rfl (fun _ => ?_) (fun _ => ?_) | refine r_ifn rfl (fun _ => ?_) (fun _ => ?_))))
      all_goals try (exfalso; omega)
      all_goals exact r_ret Tryd.func38 _ (res_one rfl rfl) ⟨rfl, rfl⟩
end Go.Proofs.YtjmbjgecfpggdaaDoor
namespace Go.Proofs.YtjmbjgecfpggdaaDoor
open Go.Ab Go.Rx
set_option maxHeartbeats 20000000
set_option maxRecDepth 100000
set_option linter.unusedVariables false
set_option linter.unusedSimpArgs false
set_option linter.unusedSectionVars false
attribute [local irreducible] Run Ops Op1 Does Val Tr PureF Eff1 NF Rel EffV EffM
def inB (l : List Rg) (c : Int) : Bool := l.any fun r => decide (r.1 ≤ c) && decide (c ≤ r.2)
theorem contains_s (l : List Rg) (hl : l.length ≤ 9223372036854775807) (c : Int) : PureF Tryd.prog 47 [.d (rgs l), I .i32 c] (B (inB l c)) := by
  refine pure_of fun H => ?_
  refine spec_of Tryd.func47 (by kernel_rfl) rfl (by simp) ?_
  dsimp only [Tryd.f47]
  repeat' (first | (refine k_op1 ?_; (first | refine o_sv rfl (by decide) ?_ | (refine k_blt ?_; (refine o_val (v_lenm rfl) rfl rfl (by decide) ?_)))) | (refine k_ops ?_; (first | refine o_go (by first | exact .inl rfl | exact .inr ⟨_, _, _, rfl, rfl, rfl⟩) ?_ | refine o_nil ?_)) | (refine k_run ?_; (first | refine r_seq ?_ | refine r_region ?_ | refine r_block ?_)))
  all_goals try (exfalso; omega)
  refine r_loop ?_
  refine r_less (r_inv (fun q : Nat => ⟨24, [(1, I .i32 c), (7, .d (rgs l)), (8, I .i64 l.length), (9, I .i64 (q : Nat))], [], H⟩) (fun q => q ≤ l.length ∧ inB (l.drop q) c = inB l c) (fun q => l.length - q) ?_ 0 ⟨Nat.zero_le _, rfl⟩) rfl rfl
  intro q ⟨i1, i2⟩ ih
  by_cases hlt : q < l.length
  · obtain ⟨r, hr⟩ : ∃ r, l[q]? = some r := ⟨_, List.getElem?_eq_getElem hlt⟩
    rw [drop_cons hr, inB, List.any_cons, ← inB] at i2
    by_cases hc : r.1 ≤ c ∧ c ≤ r.2
    · rw [decide_eq_true hc.1, decide_eq_true hc.2, Bool.true_and, Bool.true_or] at i2
      rw [← i2]
      repeat' (first | (refine k_op1 ?_; (first | refine o_sv rfl (by decide) ?_ | (refine k_load ?_; (first | refine o_val (v_load rfl rfl rfl rfl) rfl rfl (by decide) ?_ | refine o_val (v_loadea rfl rfl) rfl rfl (by decide) ?_)) | (refine k_field ?_; (refine o_val (v_field rfl rfl) rfl rfl (by decide) ?_)) | (refine k_index ?_; (refine o_val (v_index (ys := l.map rgc) rfl (by omega) (idx hr) rfl) rfl rfl (by decide) ?_)) | (refine k_bin ?_; (refine o_val (v_add (wi64 (by omega) (by omega))) rfl rfl (by decide) ?_)) | (refine k_store ?_; (refine o_store0 rfl rfl rfl rfl rfl rfl ?_)) | (refine k_alloc ?_; (refine o_does (d_alloc rfl rfl (by decide)) ?_)))) | (refine k_ops ?_; (first | refine o_go (by first | exact .inl rfl | exact .inr ⟨_, _, _, rfl, rfl, rfl⟩) ?_ | refine o_nil ?_ | refine o_no rfl rfl (by decide) ?_ | refine o_casep rfl rfl (fun _ => ?_) (fun _ => ?_))) | (refine k_run ?_; (first | refine r_seq ?_ | refine r_region ?_ | refine r_false rfl ?_ | refine r_skip ?_ | refine r_block ?_ | refine r_inBlock ?_ | refine r_if rfl (fun _ => ?_) (fun _ => ?_) | refine r_exit rfl ?_)))
      all_goals try (exfalso; omega)
      all_goals exact r_ret Tryd.func47 _ (res_one rfl rfl) ⟨rfl, rfl⟩
    · have hf : (decide (r.1 ≤ c) && decide (c ≤ r.2)) = false := by
        rw [← Bool.decide_and]; exact decide_eq_false hc
      rw [hf, Bool.false_or] at i2
      repeat' (first | (refine k_op1 ?_; (first | refine o_sv rfl (by decide) ?_ | (refine k_load ?_; (first | refine o_val (v_load rfl rfl rfl rfl) rfl rfl (by decide) ?_ | refine o_val (v_loadea rfl rfl) rfl rfl (by decide) ?_)) | (refine k_field ?_; (refine o_val (v_field rfl rfl) rfl rfl (by decide) ?_)) | (refine k_index ?_; (refine o_val (v_index (ys := l.map rgc) rfl (by omega) (idx hr) rfl) rfl rfl (by decide) ?_)) | (refine k_bin ?_; (refine o_val (v_add (wi64 (by omega) (by omega))) rfl rfl (by decide) ?_)) | (refine k_store ?_; (refine o_store0 rfl rfl rfl rfl rfl rfl ?_)) | (refine k_alloc ?_; (refine o_does (d_alloc rfl rfl (by decide)) ?_)))) | (refine k_ops ?_; (first | refine o_go (by first | exact .inl rfl | exact .inr ⟨_, _, _, rfl, rfl, rfl⟩) ?_ | refine o_nil ?_ | refine o_no rfl rfl (by decide) ?_ | refine o_casep rfl rfl (fun _ => ?_) (fun _ => ?_))) | (refine k_run ?_; (first | refine r_seq ?_ | refine r_region ?_ | refine r_false rfl ?_ | refine r_skip ?_ | refine r_block ?_ | refine r_inBlock ?_ | refine r_if rfl (fun _ => ?_) (fun _ => ?_) | refine r_exit rfl ?_)))
      all_goals try (exfalso; omega)
      all_goals exact r_less (ih (q + 1) ⟨by omega, i2⟩ (by omega)) rfl rfl
  · obtain rfl : q = l.length := by omega
    rw [List.drop_length, inB, List.any_nil] at i2
    rw [← i2]
    repeat' (first | (refine k_op1 ?_; (refine o_sv rfl (by decide) ?_)) | (refine k_ops ?_; (first | refine o_go (by first | exact .inl rfl | exact .inr ⟨_, _, _, rfl, rfl, rfl⟩) ?_ | refine o_nil ?_)) | (refine k_run ?_; (first | refine r_seq ?_ | refine r_region ?_ | refine r_skip ?_ | refine r_block ?_ | refine r_if rfl (fun _ => ?_) (fun _ => ?_) | refine r_exit rfl ?_)))
    all_goals try (exfalso; omega)
    all_goals exact r_ret Tryd.func47 _ (res_one rfl rfl) ⟨rfl, rfl⟩
end Go.Proofs.YtjmbjgecfpggdaaDoor
namespace Go.Proofs.YtjmbjgecfpggdaaDoor
open Go.Ab Go.Rx
set_option maxHeartbeats 20000000
set_option maxRecDepth 100000
set_option linter.unusedVariables false
set_option linter.unusedSimpArgs false
set_option linter.unusedSectionVars false
attribute [local irreducible] Run Ops Op1 Does Val Tr PureF Eff1 NF Rel EffV EffM EffN
noncomputable def foAsg : Code := match Tryd.f18.body with | some (.seq _ (.seq _ (.seq (.seq _ (.block _ (.rangeFunc _ _ a _))) _))) => a | _ => .skip
noncomputable def foBody : Code := match Tryd.f18.body with | some (.seq _ (.seq _ (.seq (.seq _ (.block _ (.rangeFunc _ _ _ b))) _))) => b | _ => .skip
def foSt : List (Nat × PV) := [(1, .ptr (0, 1) 0), (3, .ptr (0, 3) 0)]
noncomputable def foLp (state : LoopState) : Blk := .lp 36 18 #[11] foAsg foBody foSt state none
abbrev b8r (q : List Int) : Blk := .row 5 1 (q.map by8)
abbrev pcU (s : ByteArray) (u : Un) : List Int := btI (pcS s u.1 u.2.1 u.2.2)
noncomputable def foHp (s : ByteArray) (q : List Int) : Hp := [(999, foLp .ready), (3, .box [.ref (0, 5000)]), (5000, b8r q), (1, .box [S s]), (901, .box [S s])]
noncomputable def foW (s : ByteArray) (H : Hf) (q : List Int) : Hf := push (foHp s q) H
theorem quietHp_but {m : Nm} (k : Nat) : ∀ {hp : Hp} {t : Nat} {b : Blk}, quietHp m (hp.filter fun q => !(q.1 == k)) = true → Ab.look hp t = some b → t ≠ k → b.says m = false
  | [], t, b, _, h, _ => by simp [Ab.look] at h
  | (x, q) :: r, t, b, hq, h, hn => by
    simp only [Ab.look] at h
    by_cases hx : x = k
    · subst hx
      simp only [List.filter, beq_self_eq_true, Bool.not_true] at hq
      rw [if_neg (Ne.symm hn)] at h
      exact quietHp_but x hq h hn
    · have : (!(x == k)) = true := by simpa using hx
      simp only [List.filter, this, quietHp, Bool.and_eq_true, Bool.not_eq_true'] at hq
      split at h
      · simp at h; subst h; exact hq.1
      · exact quietHp_but k hq.2 h hn
theorem fo_round (s : ByteArray) (hs : s.size ≤ 1000000) (H : Hf) (hp : Hp) (q : List Int) (u : Un) (hqt : quietHp (1, 5000) hp = true) (hok : (q.length : Int) ≤ 4 * u.2.1) (hu : UnOK s u) :
    SpecY Tryd.prog (1, 999) [.d (.agg (unc u))] (push hp (foW s H q)) (fun r H' => r = .v (B true) ∧ H' = push hp (foW s H (q ++ pcU s u))) (fun y => y = (1, 5000)) := by
  have hlow := lower_s u.1 hu.r0 hu.r1
  obtain ⟨z0, z1, z2, z3, z4⟩ := hu
  refine y_of (n' := 36) (f' := 18) (t0 := 11) (asg := foAsg) (body := foBody) (st := foSt) (pend := none) (R2 := fun r H' => r = .v (B true) ∧ H' = upd (upd (push hp (foW s H q)) (1, 999) (foLp .busy)) (1, 5000) (b8r (q ++ pcU s u))) rfl (by decide) (by simp) ?_ ?_ ?_ ?_
  · rw [show liftTm (1 + 1) foSt = [(1, .ptr (2, 1) 0), (3, .ptr (2, 3) 0)] by simp [foSt, liftTm, PV.lift]]
    dsimp only [foAsg, foBody, Tryd.f18]
    repeat' (first | (refine k_op1 ?_; (first | (refine k_store ?_; (refine o_store0 rfl rfl rfl rfl rfl rfl ?_)) | (refine k_alloc ?_; (refine o_does (d_alloc rfl rfl (by decide)) ?_)))) | (refine k_ops ?_; (first | refine o_go (by first | exact .inl rfl | exact .inr ⟨_, _, _, rfl, rfl, rfl⟩) ?_ | refine o_nil ?_)) | (refine k_run ?_; (refine r_region ?_)))
    refine r_begin rfl rfl ?_
    change Run _ _ _ _ ⟨_, _, _, upd (push hp (foW s H q)) (1, 999) (foLp .busy)⟩
    have hb1 : upd (push hp (foW s H q)) (1, 999) (foLp .busy) 1 1 = some (.box [S s]) := rfl
    have hb3 : upd (push hp (foW s H q)) (1, 999) (foLp .busy) 1 3 = some (.box [.ref (0, 5000)]) := rfl
    have hb5 : upd (push hp (foW s H q)) (1, 999) (foLp .busy) 1 5000 = some (b8r q) := rfl
    obtain ⟨U, hU⟩ : ∃ U, upd (push hp (foW s H q)) (1, 999) (foLp .busy) = U := ⟨_, rfl⟩
    rw [hU] at hb1 hb3 hb5 ⊢
    refine r_less (tm' := [(4, .ptr (0, 4) 0), (1, .ptr (2, 1) 0), (3, .ptr (2, 3) 0)]) (hp' := [(4, .box ((unc u).map .d))]) ?_ rfl rfl
    refine r_take 700 1 3 hb3 rfl rfl ?_
    refine r_taker 701 1 5000 (upd_ne hb5 (by simp)) rfl rfl ?_
    refine r_alias 100701 rfl ?_
    refine r_less (tm' := [(4, .ptr (0, 4) 0), (1, .ptr (2, 1) 0), (3, .ptr (0, 700) 0), (100700, .al (0, 700) (2, 3))]) (hp' := [(4, .box ((unc u).map .d)), (700, .box [.ref (0, 701)]), (701, b8r q)]) ?_ rfl rfl
    obtain ⟨V, hV⟩ : ∃ V, upd (upd U (1, 3) .gone) (1, 5000) .gone = V := ⟨_, rfl⟩
    have v1 : V 1 1 = some (.box [S s]) := by rw [← hV]; exact upd_ne (upd_ne hb1 (by simp)) (by simp)
    have v3 : V 1 3 = some .gone := by rw [← hV]; exact upd_ne (upd_same _ (1, 3) _) (by simp)
    have v5 : V 1 5000 = some .gone := by rw [← hV]; exact upd_same _ (1, 5000) _
    rw [hV]
    have hqV : QuietM V (1, 5000) := by
      intro x y b hx hb
      rw [← hV, ← hU] at hb
      simp only [upd] at hb
      split at hb
      · simp at hb; subst hb; rfl
      rename_i n1
      split at hb
      · simp at hb; subst hb; rfl
      rename_i n2
      split at hb
      · simp at hb; subst hb; rename_i n3; obtain ⟨rfl, rfl⟩ := n3; rfl
      · match x, hx with
        | 0, _ => exact quietHp_get hqt hb
        | 1, _ =>
          have hb' : Ab.look (foHp s q) y = some b := hb
          refine quietHp_but 3 (m := (0, 5000)) ?_ hb' (by omega)
          rfl
    have hps := pcS_size s u.1 u.2.1 u.2.2 z2 z3 z4
    have hbl := btI_len (pcS s u.1 u.2.1 u.2.2)
    by_cases hl : lowF u.1 = u.1
    · have hpc : pcS s u.1 u.2.1 u.2.2 = s.extract u.2.1.toNat (u.2.1 + u.2.2).toNat := by rw [pcS, if_pos hl]
      rw [pcU, hpc]
      rw [hpc] at hps hbl
      repeat' (first | (refine k_op1 ?_; (first | refine o_sv rfl (by decide) ?_ | (refine k_load ?_; (refine o_val (v_load rfl rfl rfl rfl) rfl rfl (by decide) ?_)) | (refine k_field ?_; (refine o_val (v_field rfl rfl) rfl rfl (by decide) ?_)) | (refine k_blt ?_; ((refine o_appstr rfl rfl rfl rfl rfl rfl (by kernel_rfl) rfl (by decide) (by omega) ?_) /- o_app1 -/)) | (refine k_call ?_; (refine o_fn hlow rfl (by decide) ?_)) | (refine k_store ?_; (refine o_store0 rfl rfl rfl rfl rfl rfl ?_)))) | (refine k_ops ?_; (first | refine o_go (by first | exact .inl rfl | exact .inr ⟨_, _, _, rfl, rfl, rfl⟩) ?_ | refine o_nil ?_)) | (refine k_run ?_; (first | refine r_seq ?_ | refine r_region ?_ | refine r_block ?_ | refine r_tr ?_ | refine r_inBlock ?_ | refine r_ifn rfl (fun _ => ?_) (fun _ => ?_))) | (refine k_tr ?_; (first | (refine kt_load ?_; (first | refine t_val (v_load (b := .box [S s]) rfl rfl rfl rfl) (by first | exact rfl | exact ⟨_, rfl, rfl, rfl⟩) rfl (bkN v1) (by decide) ?_ | refine t_val (v_load rfl rfl rfl rfl) (by first | exact rfl | exact ⟨_, rfl, rfl, rfl⟩) rfl rfl (by decide) ?_)) | (refine kt_field ?_; (refine t_val (v_field rfl rfl) (by first | exact rfl | exact ⟨_, rfl, rfl, rfl⟩) rfl rfl (by decide) ?_)) | (refine kt_bin ?_; (refine t_val (v_add (wi64 (by omega) (by omega))) (by first | exact rfl | exact ⟨_, rfl, rfl, rfl⟩) rfl rfl (by decide) ?_)) | (refine kt_slice ?_; (refine t_val (v_sslice rfl (by omega) (by omega) (by omega)) (by first | exact rfl | exact ⟨_, rfl, rfl, rfl⟩) rfl rfl (by decide) ?_)) | (refine kt_blt ?_; ((refine t_tail mix (by kernel_rfl) ?_) /- t_app1 -/)))))
      all_goals try (exfalso; omega)
      refine r_less (tm' := [(100700, .al (0, 700) (2, 3))]) (hp' := [(700, .box [.ref (0, 33)]), (33, b8r (q ++ btI _))]) ?_ rfl rfl
      refine r_givem 33 1 5000 rfl v5 rfl rfl hqV ?_
      refine r_give 700 1 3 (raw := .box [.ref (0, 5000)]) rfl rfl (upd_ne v3 (by simp)) rfl rfl ?_
      refine r_round rfl ⟨rfl, ?_⟩
      rw [← hV, upd_upd, upd_swap (by simp), upd_upd, upd_id (m := (1, 3)) hb3]
    · have hpc : pcS s u.1 u.2.1 u.2.2 = Utf8.encode (lowF u.1) := by rw [pcS, if_neg hl]
      rw [pcU, hpc]
      rw [hpc] at hps hbl
      repeat' (first | (refine k_op1 ?_; (first | refine o_sv rfl (by decide) ?_ | (refine k_load ?_; (refine o_val (v_load rfl rfl rfl rfl) rfl rfl (by decide) ?_)) | (refine k_field ?_; (refine o_val (v_field rfl rfl) rfl rfl (by decide) ?_)) | (refine k_blt ?_; ((refine o_appstr rfl rfl rfl rfl rfl rfl (by kernel_rfl) rfl (by decide) (by omega) ?_) /- o_app1 -/)) | (refine k_call ?_; (refine o_fn hlow rfl (by decide) ?_)) | (refine k_store ?_; (refine o_store0 rfl rfl rfl rfl rfl rfl ?_)) | (refine k_conv ?_; (refine o_val (v_strune rfl rfl) rfl rfl (by decide) ?_)))) | (refine k_ops ?_; (first | refine o_go (by first | exact .inl rfl | exact .inr ⟨_, _, _, rfl, rfl, rfl⟩) ?_ | refine o_nil ?_)) | (refine k_run ?_; (first | refine r_seq ?_ | refine r_region ?_ | refine r_block ?_ | refine r_tr ?_ | refine r_inBlock ?_ | refine r_ifn rfl (fun _ => ?_) (fun _ => ?_))) | (refine k_tr ?_; ((refine kt_load ?_; (refine t_val (v_load rfl rfl rfl rfl) (by first | exact rfl | exact ⟨_, rfl, rfl, rfl⟩) rfl rfl (by decide) ?_)))))
      all_goals try (exfalso; omega)
      refine r_less (tm' := [(100700, .al (0, 700) (2, 3))]) (hp' := [(700, .box [.ref (0, 22)]), (22, b8r (q ++ btI _))]) ?_ rfl rfl
      refine r_givem 22 1 5000 rfl v5 rfl rfl hqV ?_
      refine r_give 700 1 3 (raw := .box [.ref (0, 5000)]) rfl rfl (upd_ne v3 (by simp)) rfl rfl ?_
      refine r_round rfl ⟨rfl, ?_⟩
      rw [← hV, upd_upd, upd_swap (by simp), upd_upd, upd_id (m := (1, 3)) hb3]
  · rintro H' ⟨_, rfl⟩
    refine ⟨foSt, none, upd_ne (upd_same _ _ _) (by simp), rfl, ?_⟩
    rw [upd_swap (by simp), upd_upd]
    funext d t
    match d with
    | 0 => rfl
    | d + 2 => rfl
    | 1 =>
      by_cases h1 : t = 5000
      · subst h1; rfl
      by_cases h2 : t = 999
      · subst h2; rfl
      by_cases h3 : t = 3
      · subst h3; rfl
      have k1 := Ne.symm h1
      have k2 := Ne.symm h2
      have k3 := Ne.symm h3
      simp [upd, push, foW, foHp, Ab.look, h1, h2, h3, k1, k2, k3]
  · rintro H' ⟨h, _⟩; cases h
  · rintro id H' ⟨h, _⟩; cases h
def foAll (s : ByteArray) : List Int → List Un → List Int
  | q, [] => q
  | q, u :: l => foAll s (q ++ pcU s u) l
theorem fo_run (s : ByteArray) : ∀ (l : List Un) (q : List Int), runU (fun (_ : List Int) _ => true) (fun q u => q ++ pcU s u) q l = foAll s q l
  | [], q => rfl
  | u :: l, q => by rw [runU, if_pos rfl, fo_run s l]; rfl
theorem btI_btN (s : ByteArray) : btI s = (btN s).map fun x : Nat => (x : Int) := by rw [btI, btN, List.map_map]; rfl
theorem fo_fd (s : ByteArray) : ∀ (f i : Nat) (q : List Int), s.size - i ≤ f → foAll s q (unF i (rst s i)) = q ++ (fd ((btN s).drop i)).map fun x : Nat => (x : Int)
  | 0, i, q, h => by
    rw [rst_ge (by omega), List.drop_eq_nil_of_le (by rw [btN_len]; omega)]
    simp [unF, foAll, fd, fdL]
  | f + 1, i, q, h => by
    by_cases hi : i < s.size
    · have hw := dec_w s i hi
      have hne : (btN s).drop i ≠ [] := fun e => by
        have := congrArg List.length e
        rw [List.length_drop, btN_len] at this; simp at this; omega
      rw [rst_lt hi, unF, foAll, fo_fd s f _ _ (by simp only; omega), fd_cons hne, List.map_append, ← pcS_btN s i hi, ← dec_dcL s i hi, List.drop_drop, List.append_assoc]
      congr 1
      congr 1
      rw [pcU, btI_btN]
    · rw [rst_ge (s := s) (i := i) (by omega), List.drop_eq_nil_of_le (by rw [btN_len]; omega)]
      simp [unF, foAll, fd, fdL]
theorem fo_str (s : ByteArray) : strOfNums (foAll s [] (unF 0 (rst s 0))) = foldS s := by
  rw [fo_fd s s.size 0 [] (by omega), List.nil_append, List.drop_zero, foldS, strN, strOfNums, List.map_map]
  rfl
theorem fold_s (s : ByteArray) (hs : s.size ≤ 1000000) : PureF Tryd.prog 18 [S s] (S (foldS s)) := by
  refine pure_of fun H => ?_
  refine spec_of Tryd.func18 (by kernel_rfl) rfl (by simp) ?_
  dsimp only [Tryd.f18]
  refine r_forget 901 ?_
  have h37 : ∀ (hp : Hp), Ab.look hp 901 = some Blk.gone → quietHp (0, 901) hp = true → SpecV Tryd.prog 37 [S s] (push hp H) ⟨fun r H' => r = .v (.fn (.func 48) [] [.ptr (0, 901) 0]) ∧ H' = push ((901, .box [S s]) :: hp) H, fun x => x = (0, 901) ∨ x = (0, 902), none⟩ := by
    intro hp h1 q1
    have qq : ∀ x, quietHp (0, x) hp = true → QuietM (push hp H) (0, x) := fun x q e t b he hb => by
      obtain rfl : e = 0 := by simp at he; omega
      exact quietHp_get q hb
    have := units_s s (push hp H) h1 (qq 901 q1)
    rw [upd_push1] at this
    exact this
  repeat' (first | (refine k_op1 ?_; (first | refine o_spec2 (h37 _ rfl rfl) rfl rfl rfl (by decide) ?_ | refine o_sv rfl (by decide) ?_ | (refine k_load ?_; (refine o_val (v_load rfl rfl rfl rfl) rfl rfl (by decide) ?_)) | (refine k_blt ?_; (refine o_val (v_lens rfl) rfl rfl (by decide) ?_)) | (refine k_store ?_; (refine o_store0 rfl rfl rfl rfl rfl rfl ?_)) | (refine k_alloc ?_; (refine o_does (d_alloc rfl rfl (by decide)) ?_)) | (refine k_box ?_; (refine o_does (d_box rfl rfl rfl rfl rfl (by decide)) ?_)) | refine o_makec rfl rfl (by omega) (by omega) (by omega) (by decide) rfl rfl (by decide) rfl ?_)) | (refine k_ops ?_; (first | refine o_go (by first | exact .inl rfl | exact .inr ⟨_, _, _, rfl, rfl, rfl⟩) ?_ | refine o_nil ?_)) | (refine k_run ?_; (first | refine r_seq ?_ | refine r_region ?_ | refine r_block ?_)))
  all_goals try (exfalso; omega)
  refine r_ren 8 5000 rfl rfl ?_
  refine r_less (tm' := [(1, .ptr (0, 1) 0), (3, .ptr (0, 3) 0), (10, .fn (.func 48) [] [.ptr (0, 901) 0])]) (hp' := [(3, .box [.ref (0, 5000)]), (5000, b8r []), (1, .box [S s]), (901, .box [S s])]) ?_ rfl rfl
  have hsp := units1_s s hs (fun i q => (q.length : Int) ≤ 4 * i) (fun _ _ => true) (fun q u => q ++ pcU s u) (foW s H) (fun x => rfl) (fun x u hu h1 _ => by
    have h2 := pcS_size s u.1 u.2.1 u.2.2 hu.a0 hu.n1 hu.e
    have h3 := btI_len (pcS s u.1 u.2.1 u.2.2)
    rw [List.length_append, pcU]; omega) (fun hp x u hq h1 h2 => fo_round s hs H hp x u hq h1 h2) [] (by simp)
  refine r_rangeFunc 999 5000 foSt rfl rfl rfl rfl rfl hsp (fun m h => h) ?_
  rintro r H2 ⟨_, rfl⟩
  rw [fo_run]
  have hstr := fo_str s
  generalize foAll s [] (unF 0 (rst s 0)) = Q at *
  refine ⟨.ready, none, foSt, _, H, rfl, by simp, ?_⟩
  refine r_less (tm' := [(1, .ptr (0, 1) 0), (3, .ptr (0, 3) 0)]) (hp' := [(3, .box [.ref (0, 5000)]), (5000, b8r Q)]) ?_ rfl rfl
  refine r_freeze 5000 rfl ?_
  repeat' (first | (refine k_op1 ?_; (first | refine o_sv rfl (by decide) ?_ | (refine k_load ?_; (refine o_val (v_load rfl rfl rfl rfl) rfl rfl (by decide) ?_)) | refine o_val (v_tostr rfl rfl rfl) rfl rfl (by decide) ?_)) | (refine k_ops ?_; (first | refine o_go (by first | exact .inl rfl | exact .inr ⟨_, _, _, rfl, rfl, rfl⟩) ?_ | refine o_nil ?_)) | (refine k_run ?_; (first | refine r_seq ?_ | refine r_region ?_ | refine r_inBlock ?_)))
  all_goals try (exfalso; omega)
  all_goals exact r_ret Tryd.func18 _ (res_one rfl rfl) ⟨congrArg (fun b => RV.v (S b)) hstr, rfl⟩
end Go.Proofs.YtjmbjgecfpggdaaDoor
