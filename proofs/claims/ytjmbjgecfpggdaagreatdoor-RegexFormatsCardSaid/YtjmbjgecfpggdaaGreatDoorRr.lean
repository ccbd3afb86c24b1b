/- A part of the proof: G16, G17, G19, G20, G21, G30. -/
import Derived.Test.YtjmbjgecfpggdaaGreatDoorRt
import Derived.Test.YtjmbjgecfpggdaaGreatDoorRc
import Derived.Test.YtjmbjgecfpggdaaGreatDoorRx
set_option linter.all false
set_option linter.unusedVariables false
set_option linter.unusedSimpArgs false
namespace Go.Proofs.YtjmbjgecfpggdaaGreatDoor
open Go.Ab Go.Rx
set_option maxHeartbeats 20000000
set_option maxRecDepth 100000
attribute [local irreducible] Run Ops Op1 z2r Val Tr z1n z36 NF Rel z5q z5r
/-- a unit: the code point, its place, its size -/
abbrev Un := Int × Int × Int
abbrev unc (u : Un) : List D := [zuh u.1, za9 u.2.1, za9 u.2.2]
def unF : Nat → List U → List Un
 | _, [] => []
 | i, u :: l => (u.r, (i : Int), (u.n : Int)) :: unF (i + u.n) l
/-- what becomes of a taker's state -/
def zgu {σ : Type} (go : σ → Un → Bool) (stp : σ → Un → σ) : σ → List Un → σ
 | x, [] => x
 | x, u :: l => if go x u = true then zgu go stp (stp x u) l else stp x u
theorem zg8 (s : ByteArray) (H : Hf) (h1 : H 0 901 = some .gone) (q1 : z7x H (0, 901)) :
  z99 Tryz.prog 31 [S s] H ⟨fun r H' => r = .v (.fn (.func 50) [] [.ptr (0, 901) 0]) ∧ H' = upd H (0, 901) (.box [S s]), fun x => x = (0, 901) ∨ x = (0, 902), none⟩ := by
 refine z56 Tryz.func31 (by kernel_rfl) rfl (by simp) ?_
 dsimp only [Tryz.f31]
 repeat' (first | (apply z0e; (first | refine z13 rfl (by decide) ?_ | (apply z1y; (refine z0j (z3b rfl rfl rfl rfl rfl (by decide)) ?_)) | refine zu2 rfl rfl (by decide) ?_)) | (apply z0f; (first | refine z0z ?_ | apply z0c)) | (apply z0d; (first | apply z0h | apply z01)))
 refine zpy 1 0 901 (q := .box [S s]) rfl rfl h1 (.inl rfl) (by simp [z3j, Blk.says, PV.says, PV.saysL, PV.lift]) q1 ?_
 exact z07 Tryz.func31 _ (ztz (.fn (.func 50) [] [.ptr (0, 901) 0]) rfl rfl) ⟨rfl, rfl⟩
structure zsl (s : ByteArray) (u : Un) : Prop where
 r0 : 0 ≤ u.1
 r1 : u.1 ≤ 1114111
 a0 : 0 ≤ u.2.1
 n1 : 1 ≤ u.2.2
 e : u.2.1 + u.2.2 ≤ s.size
theorem zeg {σ : Type} (s : ByteArray) (hs : s.size ≤ 1000000) (ok : Int → σ → Prop) (go : σ → Un → Bool) (stp : σ → Un → σ) (W : σ → Hf) (hW : ∀ x, W x 0 901 = some (.box [S s]))
  (hok : ∀ x u, zsl s u → ok u.2.1 x → go x u = true → ok (u.2.1 + u.2.2) (stp x u))
  (hY : ∀ (hp : Hp) (x : σ) (u : Un), z3j (1, 5000) hp = true → ok u.2.1 x → zsl s u → zea Tryz.prog (1, 999) [.d (.agg (unc u))] (push hp (W x)) (fun r H' => r = .v (B (go x u)) ∧ H' = push hp (W (stp x u))) (fun y => y = (1, 5000)))
  (x0 : σ) (h0 : ok 0 x0) : z99 Tryz.prog 50 [.yl (0, 999), .ptr (0, 901) 0] (W x0) ⟨fun r H' => r = .v (.tup []) ∧ H' = W (zgu go stp x0 (unF 0 (rst s 0))), fun x => x = (0, 5000), none⟩ := by
 refine z56 Tryz.func50 (by kernel_rfl) rfl (by simp) ?_
 dsimp only [Tryz.f50]
 have hw0 := hW x0
 obtain ⟨T, hT⟩ : ∃ T, zgu go stp x0 (unF 0 (rst s 0)) = T := ⟨_, rfl⟩
 rw [hT]
 repeat' (first | (apply z0e; (first | (apply z09; (refine z00 (z0k (b := .box [S s]) rfl rfl rfl rfl) rfl (bkN hw0) (by decide) ?_)) | (apply z0i; (refine z0b rfl rfl rfl rfl rfl rfl ?_)) | (apply z0q; (refine z0j (z0p rfl rfl (by decide)) ?_)) | (apply z1i; (refine z1j rfl rfl rfl rfl rfl rfl rfl (by decide) ?_)) | refine zb5 rfl rfl rfl (by decide) ?_)) | (apply z0f; (first | refine z0z ?_ | apply z0c)) | (apply z0d; (first | apply z0h | apply z01 | apply z02)))
 all_goals try (exfalso; omega)
 refine z2b ?_
 refine z0y (z3e (fun q : Nat × Int × Int × σ => ⟨42, [(0, .yl (1, 999)), (1, .ptr (1, 901) 0), (3, .ptr (0, 3) 0), (8, .ptr (0, 8) 0)], [(3, .box [I .i32 q.2.1, I .i64 q.2.2.1, I .i64 0]), (8, .siter s q.1)], W q.2.2.2⟩)
  (fun q => q.1 ≤ s.size ∧ (0 ≤ q.2.2.1 → ok q.2.2.1 q.2.2.2) ∧ ((q.1 = 0 ∧ q.2.2.1 = -1 ∧ q.2.2.2 = x0) ∨ (0 ≤ q.2.2.1 ∧ q.2.2.1 < q.1 ∧ 0 ≤ q.2.1 ∧ q.2.1 ≤ 1114111 ∧ zgu go stp q.2.2.2 ((q.2.1, q.2.2.1, (q.1 : Int) - q.2.2.1) :: unF q.1 (rst s q.1)) = T))) (fun q => s.size - q.1) ?_ (0, 0, -1, x0) ⟨Nat.zero_le _, fun h => by simp at h, .inl ⟨rfl, rfl, rfl⟩⟩) rfl rfl
 rintro ⟨q, r, a, x⟩ ⟨i1, i2, i3⟩ ih
 simp only at i1 i2 i3 ih ⊢
 have hwx := hW x
 by_cases hlt : q < s.size
 · have hd := z4m hlt
   have hw := z97 s q hlt
   have hdh := zh8 s q
   rcases i3 with ⟨rfl, rfl, rfl⟩ | ⟨a0, a1, r0, r1, hrun⟩
   · have ih' := ih (0 + (Utf8.decode s 0).2, ((Utf8.decode s 0).1 : Nat), 0, x) ⟨by simp only; omega, fun _ => h0, .inr ⟨by simp, by simp only; omega, by simp only; omega, by simp only; omega, by
      rw [hd] at hT
      simp only [unF] at hT
      simp only [Int.sub_zero]
      rw [← hT]; simp⟩⟩ (by simp only; omega)
     repeat' (first | (apply z0e; (first | refine z13 rfl (by decide) ?_ | (apply z09; (refine z00 (z0k rfl rfl rfl rfl) rfl rfl (by decide) ?_)) | (apply z08; (refine z00 (z03 rfl rfl) rfl rfl (by decide) ?_)) | (apply z19; (refine z00 (z4a (z1s (by omega) (by omega))) rfl rfl (by decide) ?_)) | (apply z0i; (refine z0b rfl rfl rfl rfl rfl rfl ?_)) | (apply z1i; (refine z1j rfl rfl rfl rfl rfl rfl rfl (by decide) ?_)) | refine z3y hlt rfl rfl (by decide) ?_)) | (apply z0f; (first | refine z0z ?_ | apply z0c | refine z2e rfl rfl (by decide) ?_)) | (apply z0d; (first | apply z0h | apply z01 | refine z0o rfl ?_ | refine z0g rfl ?_ | apply z06 | apply z02 | apply z04)))
     all_goals try (exfalso; omega)
     all_goals exact z0y ih' rfl rfl
   · have hu : zsl s (r, a, (q : Int) - a) := ⟨r0, r1, a0, by simp only; omega, by simp only; omega⟩
     rw [zgu] at hrun
     cases hg : go x (r, a, (q : Int) - a) with
     | true =>
      rw [if_pos hg] at hrun
      have hy : ∀ hp : Hp, z3j (1, 5000) hp = true → zea Tryz.prog (1, 999) [.d (.agg (unc (r, a, (q : Int) - a)))] (push hp (W x)) (fun r' H' => r' = .v (B true) ∧ H' = push hp (W (stp x (r, a, (q : Int) - a)))) (fun y => y = (1, 5000)) := fun hp hqq => by
       have := hY hp x _ hqq (i2 a0) hu
       rwa [hg] at this
      have ih' := ih (q + (Utf8.decode s q).2, ((Utf8.decode s q).1 : Nat), (q : Nat), stp x (r, a, (q : Int) - a)) ⟨by simp only; omega, fun _ => by have := hok _ _ hu (i2 a0) hg; simp only at this; rwa [show a + ((q : Int) - a) = (q : Nat) by omega] at this, .inr ⟨by simp only; omega, by simp only; omega, by simp only; omega, by simp only; omega, by
       rw [hd] at hrun
       simp only [unF] at hrun
       rw [show ((q + (Utf8.decode s q).2 : Nat) : Int) - (q : Nat) = ((Utf8.decode s q).2 : Nat) by omega]
       exact hrun⟩⟩ (by simp only; omega)
      repeat' (first | (apply z0e; (first | refine zeb (mv := (0, 5000)) (hy _ (by rfl)) rfl rfl rfl rfl (by decide) ?_ | refine z13 rfl (by decide) ?_ | (apply z09; (first | refine z00 (z0k rfl rfl rfl rfl) rfl rfl (by decide) ?_ | refine z00 (z1a rfl rfl rfl rfl) rfl rfl (by decide) ?_)) | (apply z08; (refine z00 (z03 rfl rfl) rfl rfl (by decide) ?_)) | (apply z19; (refine z00 (z4a (z1s (by omega) (by omega))) rfl rfl (by decide) ?_)) | (apply z0i; (refine z0b rfl rfl rfl rfl rfl rfl ?_)) | (apply z1i; (refine z1j rfl rfl rfl rfl rfl rfl rfl (by decide) ?_)) | refine z3y hlt rfl rfl (by decide) ?_)) | (apply z0f; (first | refine z0z ?_ | apply z0c | refine z2e rfl rfl (by decide) ?_ | refine z0u rfl rfl (fun _ => ?_) (fun _ => ?_))) | (apply z0d; (first | apply z0h | apply z01 | refine z0o rfl ?_ | refine z0g rfl ?_ | apply z06 | apply z02 | apply z04)))
      all_goals try (exfalso; omega)
      all_goals exact z0y ih' rfl rfl
     | false =>
      rw [if_neg (by rw [hg]; decide)] at hrun
      have hy : ∀ hp : Hp, z3j (1, 5000) hp = true → zea Tryz.prog (1, 999) [.d (.agg (unc (r, a, (q : Int) - a)))] (push hp (W x)) (fun r' H' => r' = .v (B false) ∧ H' = push hp (W (stp x (r, a, (q : Int) - a)))) (fun y => y = (1, 5000)) := fun hp hqq => by
       have := hY hp x _ hqq (i2 a0) hu
       rwa [hg] at this
      repeat' (first | (apply z0e; (first | refine zeb (mv := (0, 5000)) (hy _ (by rfl)) rfl rfl rfl rfl (by decide) ?_ | refine z13 rfl (by decide) ?_ | (apply z09; (first | refine z00 (z0k rfl rfl rfl rfl) rfl rfl (by decide) ?_ | refine z00 (z1a rfl rfl rfl rfl) rfl rfl (by decide) ?_)) | (apply z08; (refine z00 (z03 rfl rfl) rfl rfl (by decide) ?_)) | (apply z19; (refine z00 (z4a (z1s (by omega) (by omega))) rfl rfl (by decide) ?_)) | (apply z0i; (refine z0b rfl rfl rfl rfl rfl rfl ?_)) | (apply z1i; (refine z1j rfl rfl rfl rfl rfl rfl rfl (by decide) ?_)) | refine z3y hlt rfl rfl (by decide) ?_)) | (apply z0f; (first | refine z0z ?_ | apply z0c | refine z2e rfl rfl (by decide) ?_ | refine z0u rfl rfl (fun _ => ?_) (fun _ => ?_))) | (apply z0d; (first | apply z0h | apply z01 | refine z0o rfl ?_ | refine z0g rfl ?_ | apply z06 | apply z02 | apply z04)))
      all_goals try (exfalso; omega)
      all_goals exact z07 Tryz.func50 _ (z9a rfl) ⟨rfl, congrArg W hrun⟩
 · obtain rfl : q = s.size := by omega
   have hd := z3m (s := s) (i := s.size) (Nat.le_refl _)
   rcases i3 with ⟨h1, rfl, rfl⟩ | ⟨a0, a1, r0, r1, hrun⟩
   · rw [← h1, hd] at hT
     simp only [unF, zgu] at hT
     repeat' (first | (apply z0e; (first | refine z13 rfl (by decide) ?_ | (apply z09; (first | refine z00 (z0k (b := .box [S s]) rfl rfl rfl rfl) rfl (bkN hwx) (by decide) ?_ | refine z00 (z0k rfl rfl rfl rfl) rfl rfl (by decide) ?_)) | (apply z08; (refine z00 (z03 rfl rfl) rfl rfl (by decide) ?_)) | (apply z19; (refine z00 (z4a (z1s (by omega) (by omega))) rfl rfl (by decide) ?_)) | (apply z1k; (refine z00 (z48 rfl) rfl rfl (by decide) ?_)) | (apply z0i; (refine z0b rfl rfl rfl rfl rfl rfl ?_)) | refine z3z hlt rfl rfl (by decide) ?_)) | (apply z0f; (first | refine z0z ?_ | apply z0c)) | (apply z0d; (first | apply z0h | apply z01 | refine z0g rfl ?_ | apply z06 | refine z0r rfl ?_)))
     all_goals try (exfalso; omega)
     all_goals exact zo4 Tryz.func50 _ (z9a rfl) ⟨rfl, congrArg W hT⟩
   · have hu : zsl s (r, a, (s.size : Int) - a) := ⟨r0, r1, a0, by simp only; omega, by simp only; omega⟩
     rw [hd] at hrun
     simp only [unF, zgu, ite_self] at hrun
     repeat' (first | (apply z0e; (first | refine zeb (mv := (0, 5000)) (hY _ x (r, a, (s.size : Int) - a) (by rfl) (i2 a0) hu) rfl rfl rfl rfl (by decide) ?_ | refine z13 rfl (by decide) ?_ | (apply z09; (first | refine z00 (z0k (b := .box [S s]) rfl rfl rfl rfl) rfl (bkN hwx) (by decide) ?_ | refine z00 (z0k rfl rfl rfl rfl) rfl rfl (by decide) ?_ | refine z00 (z1a rfl rfl rfl rfl) rfl rfl (by decide) ?_)) | (apply z08; (refine z00 (z03 rfl rfl) rfl rfl (by decide) ?_)) | (apply z19; (refine z00 (z4a (z1s (by omega) (by omega))) rfl rfl (by decide) ?_)) | (apply z1k; (refine z00 (z48 rfl) rfl rfl (by decide) ?_)) | (apply z0i; (refine z0b rfl rfl rfl rfl rfl rfl ?_)) | refine z3z hlt rfl rfl (by decide) ?_)) | (apply z0f; (first | refine z0z ?_ | apply z0c)) | (apply z0d; (first | apply z0h | apply z01 | refine z0g rfl ?_ | apply z06 | refine z1o rfl (fun _ => ?_) (fun _ => ?_) | refine z0r rfl ?_)))
     all_goals try (exfalso; omega)
     all_goals exact zo4 Tryz.func50 _ (z9a rfl) ⟨rfl, congrArg W hrun⟩
end Go.Proofs.YtjmbjgecfpggdaaGreatDoor
namespace Go.Proofs.YtjmbjgecfpggdaaGreatDoor
open Go.Ab Go.Rx
set_option maxHeartbeats 20000000
set_option maxRecDepth 100000
attribute [local irreducible] Run Ops Op1 z2r Val Tr z1n z36 NF Rel z5q z5r
theorem zbd {hp : Hp} {up : Hf} (c : Nat) {q : Blk} : upd (push hp up) (0, c) q = push ((c, q) :: hp) up := by
 funext d s
 cases d with
 | zero =>
  simp only [upd, push, Ab.look, true_and]
  by_cases h1 : s = c
  · rw [if_pos h1, if_pos h1.symm]
  · rw [if_neg h1, if_neg (Ne.symm h1)]
 | succ d => simp [upd, push]
def atR (s : ByteArray) (i : Nat) : PV := match (unF 0 (rst s 0))[i]? with
 | some u => .tup [I .i32 u.1, I .i64 u.2.1, I .i64 u.2.2, B true]
 | none => .tup [I .i32 0, I .i64 0, I .i64 0, B false]
noncomputable def zk4 : Code := match Tryz.f14.body with | some (.seq _ (.seq (.seq _ (.block _ (.rangeFunc _ _ a _))) _)) => a | _ => .skip
noncomputable def zfc : Code := match Tryz.f14.body with | some (.seq _ (.seq (.seq _ (.block _ (.rangeFunc _ _ _ b))) _)) => b | _ => .skip
def zjd : List (Nat × PV) := [(3, .ptr (0, 3) 0), (4, .ptr (0, 4) 0), (5, .ptr (0, 5) 0), (6, .ptr (0, 6) 0), (7, .ptr (0, 7) 0)]
noncomputable def zh0 (state : LoopState) (j : Option Code) : Blk := .lp 22 14 #[11] zk4 zfc zjd state j
inductive AtS where
 | run (i : Nat)
 | fin (u : Un)
noncomputable def atW (s : ByteArray) (H : Hf) : AtS → Hf
 | .run i => push [(999, zh0 .ready none), (7, .box [B false]), (6, .box [I .i64 0]), (5, .box [I .i64 0]), (4, .box [I .i32 0]), (3, .box [I .i64 (i : Nat)]), (901, .box [S s])] H
 | .fin u => push [(999, zh0 .done (some .ret)), (7, .box [B true]), (6, .box [I .i64 u.2.2]), (5, .box [I .i64 u.2.1]), (4, .box [I .i32 u.1]), (3, .box [I .i64 0]), (901, .box [S s])] H
def zuo : AtS → Un → Bool
 | .run 0, _ => false
 | .run (_ + 1), _ => true
 | .fin _, _ => false
def ziv : AtS → Un → AtS
 | .run 0, u => .fin u
 | .run (i + 1), _ => .run i
 | .fin v, _ => .fin v
def zw2 : AtS → Prop
 | .run i => i ≤ 1000000
 | .fin _ => False
theorem zpg : ∀ (l : List Un) (i : Nat), zgu zuo ziv (.run i) l = match l[i]? with | some u => .fin u | none => .run (i - l.length)
 | [], i => by simp [zgu]
 | u :: l, 0 => by rw [zgu, if_neg (by simp [zuo])]; rfl
 | u :: l, i + 1 => by
  rw [zgu, if_pos (by rfl), show ziv (.run (i + 1)) u = .run i from rfl, zpg l i, List.getElem?_cons_succ, List.length_cons, show i + 1 - (l.length + 1) = i - l.length by omega]
theorem zms (s : ByteArray) (H : Hf) (hp : Hp) (x : AtS) (u : Un) (hx : zw2 x) : zea Tryz.prog (1, 999) [.d (.agg (unc u))] (push hp (atW s H x)) (fun r H' => r = .v (B (zuo x u)) ∧ H' = push hp (atW s H (ziv x u))) (fun y => y = (1, 5000)) := by
 match x, hx with
 | .run 0, _ =>
  refine ztw (n' := 22) (f' := 14) (t0 := 11) (asg := zk4) (body := zfc) (st := zjd) (pend := none) (R2 := fun r H' => r = .v (B false) ∧ H' = upd (upd (upd (upd (upd (push hp (atW s H (.run 0))) (1, 999) (zh0 .busy none)) (1, 4) (.box [I .i32 u.1])) (1, 5) (.box [I .i64 u.2.1])) (1, 6) (.box [I .i64 u.2.2])) (1, 7) (.box [B true])) rfl (by decide) (by simp) ?_ ?_ ?_ ?_
  · rw [show z2x (1 + 1) zjd = [(3, .ptr (2, 3) 0), (4, .ptr (2, 4) 0), (5, .ptr (2, 5) 0), (6, .ptr (2, 6) 0), (7, .ptr (2, 7) 0)] by simp [zjd, z2x, PV.lift]]
    dsimp only [zk4, zfc, Tryz.f14]
    have hb3 : upd (push hp (atW s H (.run 0))) (1, 999) (zh0 .busy none) 1 3 = some (.box [I .i64 0]) := rfl
    repeat' (first | (apply z0e; (first | (apply z0i; (refine z0b rfl rfl rfl rfl rfl rfl ?_)) | (apply z0q; (refine z0j (z0p rfl rfl (by decide)) ?_)))) | (apply z0f; (first | refine z0z ?_ | apply z0c)) | (apply z0d; (apply z01)))
    refine zbx rfl rfl ?_
    change Run _ _ _ _ ⟨_, _, _, upd (push hp (atW s H (.run 0))) (1, 999) (zh0 .busy none)⟩
    have hb4 : upd (push hp (atW s H (.run 0))) (1, 999) (zh0 .busy none) 1 4 = some (.box [I .i32 0]) := rfl
    have hb5 : upd (push hp (atW s H (.run 0))) (1, 999) (zh0 .busy none) 1 5 = some (.box [I .i64 0]) := rfl
    have hb6 : upd (push hp (atW s H (.run 0))) (1, 999) (zh0 .busy none) 1 6 = some (.box [I .i64 0]) := rfl
    have hb7 : upd (push hp (atW s H (.run 0))) (1, 999) (zh0 .busy none) 1 7 = some (.box [B false]) := rfl
    generalize upd (push hp (atW s H (.run 0))) (1, 999) (zh0 .busy none) = V at *
    repeat' (first | (apply z0e; (first | refine z13 rfl (by decide) ?_ | (apply z09; (refine z00 (z0k (b := .box [I .i64 0]) rfl rfl rfl rfl) rfl (bkN hb3) (by decide) ?_)))) | (apply z0f; (first | refine z0z ?_ | apply z0c)) | (apply z0d; (first | apply z0h | apply z01 | refine z0o rfl ?_ | apply z02 | apply z3w)) | (apply z3x; (first | (apply z1v; refine z2o mix (by kernel_rfl) ?_) | (apply z1g; (refine z0n (z0k rfl rfl rfl rfl) (by first | exact rfl | exact ⟨_, rfl, rfl, rfl⟩) rfl rfl (by decide) ?_)) | (apply z1b; (refine z0n (z03 rfl rfl) (by first | exact rfl | exact ⟨_, rfl, rfl, rfl⟩) rfl rfl (by decide) ?_)) | (apply z3v; (first | refine zao (raw' := .box [B true]) (by first | exact rfl | exact ⟨_, rfl, rfl, rfl⟩) rfl (z0v (z0v (z0v hb7 (by simp)) (by simp)) (by simp)) rfl rfl rfl rfl rfl rfl ?_ | refine zao (raw' := .box [I .i64 u.2.2]) (by first | exact rfl | exact ⟨_, rfl, rfl, rfl⟩) rfl (z0v (z0v hb6 (by simp)) (by simp)) rfl rfl rfl rfl rfl rfl ?_ | refine zao (raw' := .box [I .i64 u.2.1]) (by first | exact rfl | exact ⟨_, rfl, rfl, rfl⟩) rfl (z0v hb5 (by simp)) rfl rfl rfl rfl rfl rfl ?_ | refine zao (raw' := .box [I .i32 u.1]) (by first | exact rfl | exact ⟨_, rfl, rfl, rfl⟩) rfl hb4 rfl rfl rfl rfl rfl rfl ?_)))))
    all_goals try (exfalso; omega)
    all_goals exact zbn rfl ⟨rfl, rfl⟩
  · rintro H' ⟨h, _⟩; cases h
  · rintro H' ⟨_, rfl⟩
    refine ⟨zjd, none, z0v (z0v (z0v (z0v (z2i _ _ _) (by simp)) (by simp)) (by simp)) (by simp), rfl, ?_⟩
    funext d t
    match d with
    | 0 => rfl
    | d + 2 => rfl
    | 1 =>
     by_cases h1 : t = 999
     · subst h1; rfl
     by_cases h2 : t = 7
     · subst h2; rfl
     by_cases h3 : t = 6
     · subst h3; rfl
     by_cases h4 : t = 5
     · subst h4; rfl
     by_cases h5 : t = 4
     · subst h5; rfl
     have k1 := Ne.symm h1
     have k2 := Ne.symm h2
     have k3 := Ne.symm h3
     have k4 := Ne.symm h4
     have k5 := Ne.symm h5
     simp [upd, push, atW, ziv, Ab.look, h1, h2, h3, h4, h5, k1, k2, k3, k4, k5]
  · rintro id H' ⟨h, _⟩; cases h
 | .run (i + 1), h =>
  have hi : i + 1 ≤ 1000000 := h
  refine ztw (n' := 22) (f' := 14) (t0 := 11) (asg := zk4) (body := zfc) (st := zjd) (pend := none) (R2 := fun r H' => r = .v (B true) ∧ H' = upd (upd (push hp (atW s H (.run (i + 1)))) (1, 999) (zh0 .busy none)) (1, 3) (.box [I .i64 (i : Nat)])) rfl (by decide) (by simp) ?_ ?_ ?_ ?_
  · rw [show z2x (1 + 1) zjd = [(3, .ptr (2, 3) 0), (4, .ptr (2, 4) 0), (5, .ptr (2, 5) 0), (6, .ptr (2, 6) 0), (7, .ptr (2, 7) 0)] by simp [zjd, z2x, PV.lift]]
    dsimp only [zk4, zfc, Tryz.f14]
    repeat' (first | (apply z0e; (first | (apply z0i; (refine z0b rfl rfl rfl rfl rfl rfl ?_)) | (apply z0q; (refine z0j (z0p rfl rfl (by decide)) ?_)))) | (apply z0f; (first | refine z0z ?_ | apply z0c)) | (apply z0d; (apply z01)))
    refine zbx rfl rfl ?_
    change Run _ _ _ _ ⟨_, _, _, upd (push hp (atW s H (.run (i + 1)))) (1, 999) (zh0 .busy none)⟩
    have hb3 : upd (push hp (atW s H (.run (i + 1)))) (1, 999) (zh0 .busy none) 1 3 = some (.box [I .i64 ((i + 1 : Nat) : Int)]) := rfl
    generalize upd (push hp (atW s H (.run (i + 1)))) (1, 999) (zh0 .busy none) = V at *
    repeat' (first | (apply z0e; (first | refine z13 rfl (by decide) ?_ | (apply z09; (refine z00 (z0k (b := .box [I .i64 ((i + 1 : Nat) : Int)]) rfl rfl rfl rfl) rfl (bkN hb3) (by decide) ?_)) | (apply z19; (refine z00 (z4a (z1s (by omega) (by omega))) rfl rfl (by decide) ?_)) | (apply z0i; (refine z18 (raw' := .box [I .i64 (((i + 1 : Nat) : Int) - 1)]) rfl hb3 rfl rfl rfl rfl rfl rfl ?_)))) | (apply z0f; (first | refine z0z ?_ | apply z0c)) | (apply z0d; (first | apply z0h | apply z01 | refine z0g rfl ?_ | apply z06 | apply z02 | apply z04)))
    all_goals try (exfalso; omega)
    all_goals (rw [show ((i + 1 : Nat) : Int) - 1 = (i : Nat) by omega]; exact zej rfl ⟨rfl, rfl⟩)
  · rintro H' ⟨_, rfl⟩
    refine ⟨zjd, none, z0v (z2i _ _ _) (by simp), rfl, ?_⟩
    funext d t
    match d with
    | 0 => rfl
    | d + 2 => rfl
    | 1 =>
     by_cases h1 : t = 999
     · subst h1; rfl
     by_cases h2 : t = 7
     · subst h2; rfl
     by_cases h3 : t = 6
     · subst h3; rfl
     by_cases h4 : t = 5
     · subst h4; rfl
     by_cases h5 : t = 4
     · subst h5; rfl
     by_cases h6 : t = 3
     · subst h6; rfl
     have k1 := Ne.symm h1
     have k2 := Ne.symm h2
     have k3 := Ne.symm h3
     have k4 := Ne.symm h4
     have k5 := Ne.symm h5
     have k6 := Ne.symm h6
     simp [upd, push, atW, ziv, Ab.look, h1, h2, h3, h4, h5, h6, k1, k2, k3, k4, k5, k6]
  · rintro H' ⟨h, _⟩; cases h
  · rintro id H' ⟨h, _⟩; cases h
theorem zwa (s : ByteArray) (hs : s.size ≤ 1000000) (i : Nat) (hi : i ≤ 1000000) : z1n Tryz.prog 14 [S s, I .i64 (i : Nat)] (atR s i) := by
 refine z1u fun H => ?_
 refine z16 Tryz.func14 (by kernel_rfl) rfl (by simp) ?_
 dsimp only [Tryz.f14]
 refine zdd 901 ?_
 have h37 : ∀ (hp : Hp), Ab.look hp 901 = some Blk.gone → z3j (0, 901) hp = true → z99 Tryz.prog 31 [S s] (push hp H) ⟨fun r H' => r = .v (.fn (.func 50) [] [.ptr (0, 901) 0]) ∧ H' = push ((901, .box [S s]) :: hp) H, fun x => x = (0, 901) ∨ x = (0, 902), none⟩ := by
  intro hp h1 q1
  have qq : ∀ x, z3j (0, x) hp = true → z7x (push hp H) (0, x) := fun x q e t b he hb => by
   obtain rfl : e = 0 := by simp at he; omega
   exact z4j q hb
  have := zg8 s (push hp H) h1 (qq 901 q1)
  rw [zbd] at this
  exact this
 repeat' (first | (apply z0e; (first | refine zgk (h37 _ rfl rfl) rfl rfl rfl (by decide) ?_ | refine z13 rfl (by decide) ?_ | (apply z0q; (refine z0j (z0p rfl rfl (by decide)) ?_)) | (apply z1y; (refine z0j (z3b rfl rfl rfl rfl rfl (by decide)) ?_)))) | (apply z0f; (first | refine z0z ?_ | apply z0c)) | (apply z0d; (first | apply z0h | apply z01 | apply z02)))
 all_goals try (exfalso; omega)
 refine z0y (tm' := [(3, .ptr (0, 3) 0), (4, .ptr (0, 4) 0), (5, .ptr (0, 5) 0), (6, .ptr (0, 6) 0), (7, .ptr (0, 7) 0), (10, .fn (.func 50) [] [.ptr (0, 901) 0])]) (hp' := [(7, .box [B false]), (6, .box [I .i64 0]), (5, .box [I .i64 0]), (4, .box [I .i32 0]), (3, .box [I .i64 (i : Nat)]), (901, .box [S s])]) ?_ rfl rfl
 have hsp := zeg s hs (fun _ => zw2) zuo ziv (atW s H) (fun x => by cases x <;> rfl) (fun x u _ h1 h2 => by
  match x, h1, h2 with
  | .run (i + 1), h1, _ => have h1 : i + 1 ≤ 1000000 := h1; show i ≤ 1000000; omega) (fun hp x u _ h1 h2 => zms s H hp x u h1) (.run i) hi
 refine z8b 999 5000 zjd rfl rfl rfl rfl rfl hsp (fun m h => h) ?_
 rintro r H2 ⟨_, rfl⟩
 rw [zpg, atR]
 cases (unF 0 (rst s 0))[i]? with
 | some u =>
  refine ⟨.done, some .ret, zjd, _, H, rfl, by simp, ?_⟩
  exact z07 Tryz.func14 _ (zfg rfl rfl rfl rfl rfl rfl rfl rfl rfl rfl rfl rfl rfl rfl rfl rfl rfl) ⟨rfl, rfl⟩
 | none =>
  refine ⟨.ready, none, zjd, _, H, rfl, by simp, ?_⟩
  refine z0y (tm' := [(3, .ptr (0, 3) 0), (4, .ptr (0, 4) 0), (5, .ptr (0, 5) 0), (6, .ptr (0, 6) 0), (7, .ptr (0, 7) 0)]) (hp' := [(7, .box [B false]), (6, .box [I .i64 0]), (5, .box [I .i64 0]), (4, .box [I .i32 0])]) ?_ rfl rfl
  repeat' (first | (apply z0e; ((apply z0i; (refine z0b rfl rfl rfl rfl rfl rfl ?_)))) | (apply z0f; (first | refine z0z ?_ | apply z0c)) | (apply z0d; (first | apply z0h | apply z01 | apply z04)))
  all_goals try (exfalso; omega)
  all_goals exact z07 Tryz.func14 _ (zfg rfl rfl rfl rfl rfl rfl rfl rfl rfl rfl rfl rfl rfl rfl rfl rfl rfl) ⟨rfl, rfl⟩
end Go.Proofs.YtjmbjgecfpggdaaGreatDoor
namespace Go.Proofs.YtjmbjgecfpggdaaGreatDoor
open Go.Ab Go.Rx
set_option maxHeartbeats 20000000
set_option maxRecDepth 100000
attribute [local irreducible] Run Ops Op1 z2r Val Tr z1n z36 NF Rel z5q z5r
def okU (u : Un) : Bool := !decide (u.1 = 65533) || decide (u.2.2 = 3)
theorem zmr (u : Un) : z1n Tryz.prog 74 [.d (.agg (unc u))] (B (okU u)) := by
 refine z1u fun H => ?_
 refine z16 Tryz.func74 (by kernel_rfl) rfl (by simp) ?_
 dsimp only [Tryz.f74]
 rw [okU]
 by_cases h : u.1 = 65533
 · rw [decide_eq_true h, Bool.not_true, Bool.false_or]
   repeat' (first | (apply z0e; (first | refine z13 rfl (by decide) ?_ | (apply z09; (refine z00 (z0k rfl rfl rfl rfl) rfl rfl (by decide) ?_)) | (apply z08; (refine z00 (z03 rfl rfl) rfl rfl (by decide) ?_)) | (apply z1y; (refine z0j (z27 rfl rfl (by decide)) ?_)))) | (apply z0f; (first | refine z0z ?_ | apply z0c | refine z2e rfl rfl (by decide) ?_ | refine z3h rfl rfl (fun _ => ?_) (fun _ => ?_))) | (apply z0d; (first | apply z0h | apply z01)))
   all_goals try (exfalso; omega)
   all_goals exact z07 Tryz.func74 _ (z0a rfl rfl) ⟨rfl, rfl⟩
 · rw [decide_eq_false h, Bool.not_false, Bool.true_or]
   repeat' (first | (apply z0e; (first | refine z13 rfl (by decide) ?_ | (apply z09; (refine z00 (z0k rfl rfl rfl rfl) rfl rfl (by decide) ?_)) | (apply z08; (refine z00 (z03 rfl rfl) rfl rfl (by decide) ?_)) | (apply z1y; (refine z0j (z27 rfl rfl (by decide)) ?_)))) | (apply z0f; (first | refine z0z ?_ | apply z0c | refine z2e rfl rfl (by decide) ?_ | refine z3h rfl rfl (fun _ => ?_) (fun _ => ?_))) | (apply z0d; (first | apply z0h | apply z01)))
   all_goals try (exfalso; omega)
   all_goals exact z07 Tryz.func74 _ (z0a rfl rfl) ⟨rfl, rfl⟩
noncomputable def zkz : Code := match Tryz.f55.body with | some (.seq _ (.seq (.seq _ (.block _ (.rangeFunc _ _ a _))) _)) => a | _ => .skip
noncomputable def zeu : Code := match Tryz.f55.body with | some (.seq _ (.seq (.seq _ (.block _ (.rangeFunc _ _ _ b))) _)) => b | _ => .skip
def zjb : List (Nat × PV) := [(2, .ptr (0, 2) 0)]
noncomputable def zn6 (state : LoopState) (j : Option Code) : Blk := .lp 10 55 #[6] zkz zeu zjb state j
/-- still reading, or not any more -/
noncomputable def vaW (s : ByteArray) (H : Hf) : Bool → Hf
 | true => push [(999, zn6 .ready none), (2, .box [B false]), (901, .box [S s])] H
 | false => push [(999, zn6 .done (some .ret)), (2, .box [B false]), (901, .box [S s])] H
theorem zp4 : ∀ l : List Un, zgu (fun (_ : Bool) u => okU u) (fun _ u => okU u) true l = l.all okU
 | [] => rfl
 | u :: l => by
  rw [zgu, List.all_cons]
  cases h : okU u with
  | true => rw [if_pos rfl, zp4 l]; rfl
  | false => rw [if_neg (by decide)]; rfl
theorem zo5 (s : ByteArray) (H : Hf) (hp : Hp) (u : Un) : zea Tryz.prog (1, 999) [.d (.agg (unc u))] (push hp (vaW s H true)) (fun r H' => r = .v (B (okU u)) ∧ H' = push hp (vaW s H (okU u))) (fun y => y = (1, 5000)) := by
 have huv := zmr u
 cases ho : okU u with
 | false =>
  rw [ho] at huv
  refine ztw (n' := 10) (f' := 55) (t0 := 6) (asg := zkz) (body := zeu) (st := zjb) (pend := none) (R2 := fun r H' => r = .v (B false) ∧ H' = upd (upd (push hp (vaW s H true)) (1, 999) (zn6 .busy none)) (1, 2) (.box [B false])) rfl (by decide) (by simp) ?_ ?_ ?_ ?_
  · rw [show z2x (1 + 1) zjb = [(2, .ptr (2, 2) 0)] by simp [zjb, z2x, PV.lift]]
    dsimp only [zkz, zeu, Tryz.f55]
    repeat' (first | (apply z0e; (first | (apply z0i; (refine z0b rfl rfl rfl rfl rfl rfl ?_)) | (apply z0q; (refine z0j (z0p rfl rfl (by decide)) ?_)))) | (apply z0f; (first | refine z0z ?_ | apply z0c)) | (apply z0d; (apply z01)))
    refine zbx rfl rfl ?_
    change Run _ _ _ _ ⟨_, _, _, upd (push hp (vaW s H true)) (1, 999) (zn6 .busy none)⟩
    have hb2 : upd (push hp (vaW s H true)) (1, 999) (zn6 .busy none) 1 2 = some (.box [B false]) := rfl
    generalize upd (push hp (vaW s H true)) (1, 999) (zn6 .busy none) = V at *
    repeat' (first | (apply z0e; (first | refine z13 rfl (by decide) ?_ | (apply z09; (refine z00 (z1a rfl rfl rfl rfl) rfl rfl (by decide) ?_)) | (apply z0l; (refine z1z huv rfl (by decide) ?_)) | (apply z0i; (refine z18 (raw' := .box [B false]) rfl hb2 rfl rfl rfl rfl rfl rfl ?_)))) | (apply z0f; (first | refine z0z ?_ | apply z0c)) | (apply z0d; (first | apply z0h | apply z01 | refine z0o rfl ?_ | apply z02)))
    all_goals try (exfalso; omega)
    all_goals exact zbn rfl ⟨rfl, rfl⟩
  · rintro H' ⟨h, _⟩; cases h
  · rintro H' ⟨_, rfl⟩
    refine ⟨zjb, none, z0v (z2i _ _ _) (by simp), rfl, ?_⟩
    funext d t
    match d with
    | 0 => rfl
    | d + 2 => rfl
    | 1 =>
     by_cases h1 : t = 999
     · subst h1; rfl
     by_cases h2 : t = 2
     · subst h2; rfl
     have k1 := Ne.symm h1
     have k2 := Ne.symm h2
     simp [upd, push, vaW, Ab.look, h1, h2, k1, k2]
  · rintro id H' ⟨h, _⟩; cases h
 | true =>
  rw [ho] at huv
  refine ztw (n' := 10) (f' := 55) (t0 := 6) (asg := zkz) (body := zeu) (st := zjb) (pend := none) (R2 := fun r H' => r = .v (B true) ∧ H' = upd (push hp (vaW s H true)) (1, 999) (zn6 .busy none)) rfl (by decide) (by simp) ?_ ?_ ?_ ?_
  · rw [show z2x (1 + 1) zjb = [(2, .ptr (2, 2) 0)] by simp [zjb, z2x, PV.lift]]
    dsimp only [zkz, zeu, Tryz.f55]
    repeat' (first | (apply z0e; (first | (apply z0i; (refine z0b rfl rfl rfl rfl rfl rfl ?_)) | (apply z0q; (refine z0j (z0p rfl rfl (by decide)) ?_)))) | (apply z0f; (first | refine z0z ?_ | apply z0c)) | (apply z0d; (apply z01)))
    refine zbx rfl rfl ?_
    change Run _ _ _ _ ⟨_, _, _, upd (push hp (vaW s H true)) (1, 999) (zn6 .busy none)⟩
    generalize upd (push hp (vaW s H true)) (1, 999) (zn6 .busy none) = V at *
    repeat' (first | (apply z0e; (first | refine z13 rfl (by decide) ?_ | (apply z09; (refine z00 (z1a rfl rfl rfl rfl) rfl rfl (by decide) ?_)) | (apply z0l; (refine z1z huv rfl (by decide) ?_)))) | (apply z0f; (first | refine z0z ?_ | apply z0c)) | (apply z0d; (first | apply z0h | apply z01 | refine z0g rfl ?_ | apply z06 | apply z02 | apply z04)))
    all_goals try (exfalso; omega)
    all_goals exact zej rfl ⟨rfl, rfl⟩
  · rintro H' ⟨_, rfl⟩
    refine ⟨zjb, none, z2i _ _ _, rfl, ?_⟩
    funext d t
    match d with
    | 0 => rfl
    | d + 2 => rfl
    | 1 =>
     by_cases h1 : t = 999
     · subst h1; rfl
     have k1 := Ne.symm h1
     simp [upd, push, vaW, Ab.look, h1, k1]
  · rintro H' ⟨h, _⟩; cases h
  · rintro id H' ⟨h, _⟩; cases h
theorem zqf (s : ByteArray) (hs : s.size ≤ 1000000) : z1n Tryz.prog 55 [S s] (B ((unF 0 (rst s 0)).all okU)) := by
 refine z1u fun H => ?_
 refine z16 Tryz.func55 (by kernel_rfl) rfl (by simp) ?_
 dsimp only [Tryz.f55]
 refine zdd 901 ?_
 have h37 : ∀ (hp : Hp), Ab.look hp 901 = some Blk.gone → z3j (0, 901) hp = true → z99 Tryz.prog 31 [S s] (push hp H) ⟨fun r H' => r = .v (.fn (.func 50) [] [.ptr (0, 901) 0]) ∧ H' = push ((901, .box [S s]) :: hp) H, fun x => x = (0, 901) ∨ x = (0, 902), none⟩ := by
  intro hp h1 q1
  have qq : ∀ x, z3j (0, x) hp = true → z7x (push hp H) (0, x) := fun x q e t b he hb => by
   obtain rfl : e = 0 := by simp at he; omega
   exact z4j q hb
  have := zg8 s (push hp H) h1 (qq 901 q1)
  rw [zbd] at this
  exact this
 repeat' (first | (apply z0e; (first | refine zgk (h37 _ rfl rfl) rfl rfl rfl (by decide) ?_ | refine z13 rfl (by decide) ?_ | (apply z0q; (refine z0j (z0p rfl rfl (by decide)) ?_)))) | (apply z0f; (first | refine z0z ?_ | apply z0c)) | (apply z0d; (first | apply z0h | apply z01 | apply z02)))
 all_goals try (exfalso; omega)
 refine z0y (tm' := [(2, .ptr (0, 2) 0), (5, .fn (.func 50) [] [.ptr (0, 901) 0])]) (hp' := [(2, .box [B false]), (901, .box [S s])]) ?_ rfl rfl
 have hsp := zeg s hs (fun _ b => b = true) (fun (_ : Bool) u => okU u) (fun _ u => okU u) (vaW s H) (fun x => by cases x <;> rfl) (fun x u _ h1 h2 => h2) (fun hp x u _ h1 h2 => by subst h1; exact zo5 s H hp u) true rfl
 refine z8b 999 5000 zjb rfl rfl rfl rfl rfl hsp (fun m h => h) ?_
 rintro r H2 ⟨_, rfl⟩
 rw [zp4]
 cases (unF 0 (rst s 0)).all okU with
 | false =>
  refine ⟨.done, some .ret, zjb, _, H, rfl, by simp, ?_⟩
  exact z07 Tryz.func55 _ (zfd rfl rfl rfl rfl rfl) ⟨rfl, rfl⟩
 | true =>
  refine ⟨.ready, none, zjb, _, H, rfl, by simp, ?_⟩
  refine z0y (tm' := [(2, .ptr (0, 2) 0)]) (hp' := [(2, .box [B false])]) ?_ rfl rfl
  repeat' (first | (apply z0e; ((apply z0i; (refine z0b rfl rfl rfl rfl rfl rfl ?_)))) | (apply z0f; (first | refine z0z ?_ | apply z0c)) | (apply z0d; (first | apply z0h | apply z01 | apply z04)))
  all_goals try (exfalso; omega)
  all_goals exact z07 Tryz.func55 _ (zfd rfl rfl rfl rfl rfl) ⟨rfl, rfl⟩
end Go.Proofs.YtjmbjgecfpggdaaGreatDoor
namespace Go.Proofs.YtjmbjgecfpggdaaGreatDoor
open Go.Ab Go.Rx
set_option maxHeartbeats 20000000
set_option maxRecDepth 100000
attribute [local irreducible] Run Ops Op1 z2r Val Tr z1n z36 NF Rel z5q z5r
theorem zr2 (r : Int) (h0 : 0 ≤ r) (h1 : r ≤ 1114111) : z1n Tryz.prog 76 [I .i32 r] (I .i32 (z84 r)) := by
 refine z1u fun H => ?_
 refine z16 Tryz.func76 (by kernel_rfl) rfl (by simp) ?_
 dsimp only [Tryz.f76]
 rw [z84]
 by_cases hc : zpt r
 · rw [if_pos hc]
   rw [zpt] at hc
   repeat' (first | (apply z0e; (first | refine z13 rfl (by decide) ?_ | (apply z19; (refine z00 (z1e (za5 (by omega) (by omega))) rfl rfl (by decide) ?_)))) | (apply z0f; (first | refine z0z ?_ | apply z0c | refine z2e rfl rfl (by decide) ?_ | refine z0u rfl rfl (fun _ => ?_) (fun _ => ?_))) | (apply z0d; (first | apply z0h | apply z01 | refine z0g rfl ?_ | apply z06 | apply z02 | apply z04 | refine z1o rfl (fun _ => ?_) (fun _ => ?_) | refine z2w rfl (fun _ => ?_) (fun _ => ?_))))
   all_goals try (exfalso; omega)
   all_goals exact z07 Tryz.func76 _ (z0a rfl rfl) ⟨rfl, rfl⟩
 · rw [if_neg hc]
   rw [zpt] at hc
   by_cases hd : 1024 ≤ r ∧ r ≤ 1039
   · rw [if_pos hd]
     repeat' (first | (apply z0e; (first | refine z13 rfl (by decide) ?_ | (apply z19; (refine z00 (z1e (za5 (by omega) (by omega))) rfl rfl (by decide) ?_)))) | (apply z0f; (first | refine z0z ?_ | apply z0c | refine z2e rfl rfl (by decide) ?_ | refine z0u rfl rfl (fun _ => ?_) (fun _ => ?_))) | (apply z0d; (first | apply z0h | apply z01 | refine z0g rfl ?_ | apply z06 | apply z02 | apply z04 | refine z1o rfl (fun _ => ?_) (fun _ => ?_) | refine z2w rfl (fun _ => ?_) (fun _ => ?_))))
     all_goals try (exfalso; omega)
     all_goals exact z07 Tryz.func76 _ (z0a rfl rfl) ⟨rfl, rfl⟩
   · rw [if_neg hd]
     repeat' (first | (apply z0e; (first | refine z13 rfl (by decide) ?_ | (apply z19; (refine z00 (z1e (za5 (by omega) (by omega))) rfl rfl (by decide) ?_)))) | (apply z0f; (first | refine z0z ?_ | apply z0c | refine z2e rfl rfl (by decide) ?_ | refine z0u rfl rfl (fun _ => ?_) (fun _ => ?_))) | (apply z0d; (first | apply z0h | apply z01 | refine z0g rfl ?_ | apply z06 | apply z02 | apply z04 | refine z1o rfl (fun _ => ?_) (fun _ => ?_) | refine z2w rfl (fun _ => ?_) (fun _ => ?_))))
     all_goals try (exfalso; omega)
     all_goals exact z07 Tryz.func76 _ (z0a rfl rfl) ⟨rfl, rfl⟩
end Go.Proofs.YtjmbjgecfpggdaaGreatDoor
namespace Go.Proofs.YtjmbjgecfpggdaaGreatDoor
open Go.Ab Go.Rx
set_option maxHeartbeats 20000000
set_option maxRecDepth 100000
attribute [local irreducible] Run Ops Op1 z2r Val Tr z1n z36 NF Rel z5q z5r
def inB (l : List Rg) (c : Int) : Bool := l.any fun r => decide (r.1 ≤ c) && decide (c ≤ r.2)
theorem zis (l : List Rg) (hl : l.length ≤ 9223372036854775807) (c : Int) : z1n Tryz.prog 58 [.d (rgs l), I .i32 c] (B (inB l c)) := by
 refine z1u fun H => ?_
 refine z16 Tryz.func58 (by kernel_rfl) rfl (by simp) ?_
 dsimp only [Tryz.f58]
 repeat' (first | (apply z0e; (first | refine z13 rfl (by decide) ?_ | (apply z1k; (refine z00 (z1p rfl) rfl rfl (by decide) ?_)))) | (apply z0f; (first | refine z0z ?_ | apply z0c)) | (apply z0d; (first | apply z0h | apply z01 | apply z02)))
 all_goals try (exfalso; omega)
 refine z2b ?_
 refine z0y (z3e (fun q : Nat => ⟨24, [(1, I .i32 c), (7, .d (rgs l)), (8, I .i64 l.length), (9, I .i64 (q : Nat))], [], H⟩) (fun q => q ≤ l.length ∧ inB (l.drop q) c = inB l c) (fun q => l.length - q) ?_ 0 ⟨Nat.zero_le _, rfl⟩) rfl rfl
 intro q ⟨i1, i2⟩ ih
 by_cases hlt : q < l.length
 · obtain ⟨r, hr⟩ : ∃ r, l[q]? = some r := ⟨_, List.getElem?_eq_getElem hlt⟩
   rw [drop_cons hr, inB, List.any_cons, ← inB] at i2
   by_cases hc : r.1 ≤ c ∧ c ≤ r.2
   · rw [decide_eq_true hc.1, decide_eq_true hc.2, Bool.true_and, Bool.true_or] at i2
     rw [← i2]
     repeat' (first | (apply z0e; (first | refine z13 rfl (by decide) ?_ | (apply z09; (first | refine z00 (z0k rfl rfl rfl rfl) rfl rfl (by decide) ?_ | refine z00 (z0w rfl rfl) rfl rfl (by decide) ?_)) | (apply z08; (refine z00 (z03 rfl rfl) rfl rfl (by decide) ?_)) | (apply z1c; (refine z00 (z0t (ys := l.map rgc) rfl (by omega) (idx hr) rfl) rfl rfl (by decide) ?_)) | (apply z19; (refine z00 (z1e (z1s (by omega) (by omega))) rfl rfl (by decide) ?_)) | (apply z0i; (refine z0b rfl rfl rfl rfl rfl rfl ?_)) | (apply z0q; (refine z0j (z0p rfl rfl (by decide)) ?_)))) | (apply z0f; (first | refine z0z ?_ | apply z0c | refine z2e rfl rfl (by decide) ?_ | refine z0u rfl rfl (fun _ => ?_) (fun _ => ?_))) | (apply z0d; (first | apply z0h | apply z01 | refine z0g rfl ?_ | apply z06 | apply z02 | apply z04 | refine z1o rfl (fun _ => ?_) (fun _ => ?_) | refine z0r rfl ?_)))
     all_goals try (exfalso; omega)
     all_goals exact z07 Tryz.func58 _ (z0a rfl rfl) ⟨rfl, rfl⟩
   · have hf : (decide (r.1 ≤ c) && decide (c ≤ r.2)) = false := by
      rw [← Bool.decide_and]; exact decide_eq_false hc
     rw [hf, Bool.false_or] at i2
     repeat' (first | (apply z0e; (first | refine z13 rfl (by decide) ?_ | (apply z09; (first | refine z00 (z0k rfl rfl rfl rfl) rfl rfl (by decide) ?_ | refine z00 (z0w rfl rfl) rfl rfl (by decide) ?_)) | (apply z08; (refine z00 (z03 rfl rfl) rfl rfl (by decide) ?_)) | (apply z1c; (refine z00 (z0t (ys := l.map rgc) rfl (by omega) (idx hr) rfl) rfl rfl (by decide) ?_)) | (apply z19; (refine z00 (z1e (z1s (by omega) (by omega))) rfl rfl (by decide) ?_)) | (apply z0i; (refine z0b rfl rfl rfl rfl rfl rfl ?_)) | (apply z0q; (refine z0j (z0p rfl rfl (by decide)) ?_)))) | (apply z0f; (first | refine z0z ?_ | apply z0c | refine z2e rfl rfl (by decide) ?_ | refine z0u rfl rfl (fun _ => ?_) (fun _ => ?_))) | (apply z0d; (first | apply z0h | apply z01 | refine z0g rfl ?_ | apply z06 | apply z02 | apply z04 | refine z1o rfl (fun _ => ?_) (fun _ => ?_) | refine z0r rfl ?_)))
     all_goals try (exfalso; omega)
     all_goals exact z0y (ih (q + 1) ⟨by omega, i2⟩ (by omega)) rfl rfl
 · obtain rfl : q = l.length := by omega
   rw [List.drop_length, inB, List.any_nil] at i2
   rw [← i2]
   repeat' (first | (apply z0e; (refine z13 rfl (by decide) ?_)) | (apply z0f; (first | refine z0z ?_ | apply z0c)) | (apply z0d; (first | apply z0h | apply z01 | apply z06 | apply z02 | refine z1o rfl (fun _ => ?_) (fun _ => ?_) | refine z0r rfl ?_)))
   all_goals try (exfalso; omega)
   all_goals exact z07 Tryz.func58 _ (z0a rfl rfl) ⟨rfl, rfl⟩
end Go.Proofs.YtjmbjgecfpggdaaGreatDoor
namespace Go.Proofs.YtjmbjgecfpggdaaGreatDoor
open Go.Ab Go.Rx
set_option maxHeartbeats 20000000
set_option maxRecDepth 100000
attribute [local irreducible] Run Ops Op1 z2r Val Tr z1n z36 NF Rel z5q z5r zad
noncomputable def zpr : Code := match Tryz.f59.body with | some (.seq _ (.seq _ (.seq (.seq _ (.block _ (.rangeFunc _ _ a _))) _))) => a | _ => .skip
noncomputable def zlg : Code := match Tryz.f59.body with | some (.seq _ (.seq _ (.seq (.seq _ (.block _ (.rangeFunc _ _ _ b))) _))) => b | _ => .skip
def zrl : List (Nat × PV) := [(1, .ptr (0, 1) 0), (3, .ptr (0, 3) 0)]
noncomputable def zrd (state : LoopState) : Blk := .lp 36 59 #[11] zpr zlg zrl state none
abbrev b8r (q : List Int) : Blk := .row 5 1 (q.map by8)
abbrev pcU (s : ByteArray) (u : Un) : List Int := btI (pcS s u.1 u.2.1 u.2.2)
noncomputable def zuz (s : ByteArray) (q : List Int) : Hp := [(999, zrd .ready), (3, .box [.ref (0, 5000)]), (5000, b8r q), (1, .box [S s]), (901, .box [S s])]
noncomputable def foW (s : ByteArray) (H : Hf) (q : List Int) : Hf := push (zuz s q) H
theorem z8j {m : Nm} (k : Nat) : ∀ {hp : Hp} {t : Nat} {b : Blk}, z3j m (hp.filter fun q => !(q.1 == k)) = true → Ab.look hp t = some b → t ≠ k → b.says m = false
 | [], t, b, _, h, _ => by simp [Ab.look] at h
 | (x, q) :: r, t, b, hq, h, hn => by
  simp only [Ab.look] at h
  by_cases hx : x = k
  · subst hx
    simp only [List.filter, beq_self_eq_true, Bool.not_true] at hq
    rw [if_neg (Ne.symm hn)] at h
    exact z8j x hq h hn
  · have : (!(x == k)) = true := by simpa using hx
    simp only [List.filter, this, z3j, Bool.and_eq_true, Bool.not_eq_true'] at hq
    split at h
    · simp at h; subst h; exact hq.1
    · exact z8j k hq.2 h hn
theorem zna (s : ByteArray) (hs : s.size ≤ 1000000) (H : Hf) (hp : Hp) (q : List Int) (u : Un) (hqt : z3j (1, 5000) hp = true) (hok : (q.length : Int) ≤ 4 * u.2.1) (hu : zsl s u) :
  zea Tryz.prog (1, 999) [.d (.agg (unc u))] (push hp (foW s H q)) (fun r H' => r = .v (B true) ∧ H' = push hp (foW s H (q ++ pcU s u))) (fun y => y = (1, 5000)) := by
 have hlow := zr2 u.1 hu.r0 hu.r1
 obtain ⟨z0, z1, z2, z3, z4⟩ := hu
 refine ztw (n' := 36) (f' := 59) (t0 := 11) (asg := zpr) (body := zlg) (st := zrl) (pend := none) (R2 := fun r H' => r = .v (B true) ∧ H' = upd (upd (push hp (foW s H q)) (1, 999) (zrd .busy)) (1, 5000) (b8r (q ++ pcU s u))) rfl (by decide) (by simp) ?_ ?_ ?_ ?_
 · rw [show z2x (1 + 1) zrl = [(1, .ptr (2, 1) 0), (3, .ptr (2, 3) 0)] by simp [zrl, z2x, PV.lift]]
   dsimp only [zpr, zlg, Tryz.f59]
   repeat' (first | (apply z0e; (first | (apply z0i; (refine z0b rfl rfl rfl rfl rfl rfl ?_)) | (apply z0q; (refine z0j (z0p rfl rfl (by decide)) ?_)))) | (apply z0f; (first | refine z0z ?_ | apply z0c)) | (apply z0d; (apply z01)))
   refine zbx rfl rfl ?_
   change Run _ _ _ _ ⟨_, _, _, upd (push hp (foW s H q)) (1, 999) (zrd .busy)⟩
   have hb1 : upd (push hp (foW s H q)) (1, 999) (zrd .busy) 1 1 = some (.box [S s]) := rfl
   have hb3 : upd (push hp (foW s H q)) (1, 999) (zrd .busy) 1 3 = some (.box [.ref (0, 5000)]) := rfl
   have hb5 : upd (push hp (foW s H q)) (1, 999) (zrd .busy) 1 5000 = some (b8r q) := rfl
   obtain ⟨U, hU⟩ : ∃ U, upd (push hp (foW s H q)) (1, 999) (zrd .busy) = U := ⟨_, rfl⟩
   rw [hU] at hb1 hb3 hb5 ⊢
   refine z0y (tm' := [(4, .ptr (0, 4) 0), (1, .ptr (2, 1) 0), (3, .ptr (2, 3) 0)]) (hp' := [(4, .box ((unc u).map .d))]) ?_ rfl rfl
   refine z4n 700 1 3 hb3 rfl rfl ?_
   refine z4c 701 1 5000 (z0v hb5 (by simp)) rfl rfl ?_
   refine z4i 100701 rfl ?_
   refine z0y (tm' := [(4, .ptr (0, 4) 0), (1, .ptr (2, 1) 0), (3, .ptr (0, 700) 0), (100700, .al (0, 700) (2, 3))]) (hp' := [(4, .box ((unc u).map .d)), (700, .box [.ref (0, 701)]), (701, b8r q)]) ?_ rfl rfl
   obtain ⟨V, hV⟩ : ∃ V, upd (upd U (1, 3) .gone) (1, 5000) .gone = V := ⟨_, rfl⟩
   have v1 : V 1 1 = some (.box [S s]) := by rw [← hV]; exact z0v (z0v hb1 (by simp)) (by simp)
   have v3 : V 1 3 = some .gone := by rw [← hV]; exact z0v (z2i _ (1, 3) _) (by simp)
   have v5 : V 1 5000 = some .gone := by rw [← hV]; exact z2i _ (1, 5000) _
   rw [hV]
   have hqV : z7x V (1, 5000) := by
    intro x y b hx hb
    rw [← hV, ← hU] at hb
    simp only [upd] at hb
    split at hb
    · simp at hb; subst hb; rfl
    rename_i n1
    split at hb
    · simp at hb; subst hb; rfl
    rename_i n2
    split at hb
    · simp at hb; subst hb; rename_i n3; obtain ⟨rfl, rfl⟩ := n3; rfl
    · match x, hx with
      | 0, _ => exact z4j hqt hb
      | 1, _ =>
       have hb' : Ab.look (zuz s q) y = some b := hb
       refine z8j 3 (m := (0, 5000)) ?_ hb' (by omega)
       rfl
   have hps := zgy s u.1 u.2.1 u.2.2 z2 z3 z4
   have hbl := zee (pcS s u.1 u.2.1 u.2.2)
   by_cases hl : z84 u.1 = u.1
   · have hpc : pcS s u.1 u.2.1 u.2.2 = s.extract u.2.1.toNat (u.2.1 + u.2.2).toNat := by rw [pcS, if_pos hl]
     rw [pcU, hpc]
     rw [hpc] at hps hbl
     repeat' (first | (apply z0e; (first | refine z13 rfl (by decide) ?_ | (apply z09; (refine z00 (z0k rfl rfl rfl rfl) rfl rfl (by decide) ?_)) | (apply z08; (refine z00 (z03 rfl rfl) rfl rfl (by decide) ?_)) | (apply z1k; ((refine zil rfl rfl rfl rfl rfl rfl (by kernel_rfl) rfl (by decide) (by omega) ?_) /- z4s -/)) | (apply z0l; (refine z1z hlow rfl (by decide) ?_)) | (apply z0i; (refine z0b rfl rfl rfl rfl rfl rfl ?_)))) | (apply z0f; (first | refine z0z ?_ | apply z0c)) | (apply z0d; (first | apply z0h | apply z01 | apply z02 | apply z3w | apply z04 | refine z2w rfl (fun _ => ?_) (fun _ => ?_))) | (apply z3x; (first | (apply z1g; (first | refine z0n (z0k (b := .box [S s]) rfl rfl rfl rfl) (by first | exact rfl | exact ⟨_, rfl, rfl, rfl⟩) rfl (bkN v1) (by decide) ?_ | refine z0n (z0k rfl rfl rfl rfl) (by first | exact rfl | exact ⟨_, rfl, rfl, rfl⟩) rfl rfl (by decide) ?_)) | (apply z1b; (refine z0n (z03 rfl rfl) (by first | exact rfl | exact ⟨_, rfl, rfl, rfl⟩) rfl rfl (by decide) ?_)) | (apply z4y; (refine z0n (z1e (z1s (by omega) (by omega))) (by first | exact rfl | exact ⟨_, rfl, rfl, rfl⟩) rfl rfl (by decide) ?_)) | (apply zaw; (refine z0n (znz rfl (by omega) (by omega) (by omega)) (by first | exact rfl | exact ⟨_, rfl, rfl, rfl⟩) rfl rfl (by decide) ?_)) | (apply z4h; ((refine zh4 mix (by kernel_rfl) ?_) /- zor -/)))))
     all_goals try (exfalso; omega)
     refine z0y (tm' := [(100700, .al (0, 700) (2, 3))]) (hp' := [(700, .box [.ref (0, 33)]), (33, b8r (q ++ btI _))]) ?_ rfl rfl
     refine zjg 33 1 5000 rfl v5 rfl rfl hqV ?_
     refine z3q 700 1 3 (raw := .box [.ref (0, 5000)]) rfl rfl (z0v v3 (by simp)) rfl rfl ?_
     refine zej rfl ⟨rfl, ?_⟩
     rw [← hV, z7d, zaq (by simp), z7d, zhh (m := (1, 3)) hb3]
   · have hpc : pcS s u.1 u.2.1 u.2.2 = Utf8.encode (z84 u.1) := by rw [pcS, if_neg hl]
     rw [pcU, hpc]
     rw [hpc] at hps hbl
     repeat' (first | (apply z0e; (first | refine z13 rfl (by decide) ?_ | (apply z09; (refine z00 (z0k rfl rfl rfl rfl) rfl rfl (by decide) ?_)) | (apply z08; (refine z00 (z03 rfl rfl) rfl rfl (by decide) ?_)) | (apply z1k; ((refine zil rfl rfl rfl rfl rfl rfl (by kernel_rfl) rfl (by decide) (by omega) ?_) /- z4s -/)) | (apply z0l; (refine z1z hlow rfl (by decide) ?_)) | (apply z0i; (refine z0b rfl rfl rfl rfl rfl rfl ?_)) | (apply z4p; (refine z00 (z4v rfl rfl) rfl rfl (by decide) ?_)))) | (apply z0f; (first | refine z0z ?_ | apply z0c)) | (apply z0d; (first | apply z0h | apply z01 | apply z02 | apply z3w | apply z04 | refine z2w rfl (fun _ => ?_) (fun _ => ?_))) | (apply z3x; ((apply z1g; (refine z0n (z0k rfl rfl rfl rfl) (by first | exact rfl | exact ⟨_, rfl, rfl, rfl⟩) rfl rfl (by decide) ?_)))))
     all_goals try (exfalso; omega)
     refine z0y (tm' := [(100700, .al (0, 700) (2, 3))]) (hp' := [(700, .box [.ref (0, 22)]), (22, b8r (q ++ btI _))]) ?_ rfl rfl
     refine zjg 22 1 5000 rfl v5 rfl rfl hqV ?_
     refine z3q 700 1 3 (raw := .box [.ref (0, 5000)]) rfl rfl (z0v v3 (by simp)) rfl rfl ?_
     refine zej rfl ⟨rfl, ?_⟩
     rw [← hV, z7d, zaq (by simp), z7d, zhh (m := (1, 3)) hb3]
 · rintro H' ⟨_, rfl⟩
   refine ⟨zrl, none, z0v (z2i _ _ _) (by simp), rfl, ?_⟩
   rw [zaq (by simp), z7d]
   funext d t
   match d with
   | 0 => rfl
   | d + 2 => rfl
   | 1 =>
    by_cases h1 : t = 5000
    · subst h1; rfl
    by_cases h2 : t = 999
    · subst h2; rfl
    by_cases h3 : t = 3
    · subst h3; rfl
    have k1 := Ne.symm h1
    have k2 := Ne.symm h2
    have k3 := Ne.symm h3
    simp [upd, push, foW, zuz, Ab.look, h1, h2, h3, k1, k2, k3]
 · rintro H' ⟨h, _⟩; cases h
 · rintro id H' ⟨h, _⟩; cases h
def zfb (s : ByteArray) : List Int → List Un → List Int
 | q, [] => q
 | q, u :: l => zfb s (q ++ pcU s u) l
theorem zom (s : ByteArray) : ∀ (l : List Un) (q : List Int), zgu (fun (_ : List Int) _ => true) (fun q u => q ++ pcU s u) q l = zfb s q l
 | [], q => rfl
 | u :: l, q => by rw [zgu, if_pos rfl, zom s l]; rfl
theorem zqo (s : ByteArray) : btI s = (btN s).map fun x : Nat => (x : Int) := by rw [btI, btN, List.map_map]; rfl
theorem zt1 (s : ByteArray) : ∀ (f i : Nat) (q : List Int), s.size - i ≤ f → zfb s q (unF i (rst s i)) = q ++ (fd ((btN s).drop i)).map fun x : Nat => (x : Int)
 | 0, i, q, h => by
  rw [z3m (by omega), List.drop_eq_nil_of_le (by rw [z4z]; omega)]
  simp [unF, zfb, fd, fdL]
 | f + 1, i, q, h => by
  by_cases hi : i < s.size
  · have hw := z97 s i hi
    have hne : (btN s).drop i ≠ [] := fun e => by
     have := congrArg List.length e
     rw [List.length_drop, z4z] at this; simp at this; omega
    rw [z4m hi, unF, zfb, zt1 s f _ _ (by simp only; omega), zft hne, List.map_append, ← zqa s i hi, ← zdo s i hi, List.drop_drop, List.append_assoc]
    congr 1
    congr 1
    rw [pcU, zqo]
  · rw [z3m (s := s) (i := i) (by omega), List.drop_eq_nil_of_le (by rw [z4z]; omega)]
    simp [unF, zfb, fd, fdL]
theorem zua (s : ByteArray) : strOfNums (zfb s [] (unF 0 (rst s 0))) = z9g s := by
 rw [zt1 s s.size 0 [] (by omega), List.nil_append, List.drop_zero, z9g, zqp, strOfNums, List.map_map]
 rfl
theorem zp7 (s : ByteArray) (hs : s.size ≤ 1000000) : z1n Tryz.prog 59 [S s] (S (z9g s)) := by
 refine z1u fun H => ?_
 refine z16 Tryz.func59 (by kernel_rfl) rfl (by simp) ?_
 dsimp only [Tryz.f59]
 refine zdd 901 ?_
 have h37 : ∀ (hp : Hp), Ab.look hp 901 = some Blk.gone → z3j (0, 901) hp = true → z99 Tryz.prog 31 [S s] (push hp H) ⟨fun r H' => r = .v (.fn (.func 50) [] [.ptr (0, 901) 0]) ∧ H' = push ((901, .box [S s]) :: hp) H, fun x => x = (0, 901) ∨ x = (0, 902), none⟩ := by
  intro hp h1 q1
  have qq : ∀ x, z3j (0, x) hp = true → z7x (push hp H) (0, x) := fun x q e t b he hb => by
   obtain rfl : e = 0 := by simp at he; omega
   exact z4j q hb
  have := zg8 s (push hp H) h1 (qq 901 q1)
  rw [zbd] at this
  exact this
 repeat' (first | (apply z0e; (first | refine zgk (h37 _ rfl rfl) rfl rfl rfl (by decide) ?_ | refine z13 rfl (by decide) ?_ | (apply z09; (refine z00 (z0k rfl rfl rfl rfl) rfl rfl (by decide) ?_)) | (apply z1k; (refine z00 (z48 rfl) rfl rfl (by decide) ?_)) | (apply z0i; (refine z0b rfl rfl rfl rfl rfl rfl ?_)) | (apply z0q; (refine z0j (z0p rfl rfl (by decide)) ?_)) | (apply z1y; (refine z0j (z3b rfl rfl rfl rfl rfl (by decide)) ?_)) | refine zr7 rfl rfl (by omega) (by omega) (by omega) (by decide) rfl rfl (by decide) rfl ?_)) | (apply z0f; (first | refine z0z ?_ | apply z0c)) | (apply z0d; (first | apply z0h | apply z01 | apply z02)))
 all_goals try (exfalso; omega)
 refine z73 8 5000 rfl rfl ?_
 refine z0y (tm' := [(1, .ptr (0, 1) 0), (3, .ptr (0, 3) 0), (10, .fn (.func 50) [] [.ptr (0, 901) 0])]) (hp' := [(3, .box [.ref (0, 5000)]), (5000, b8r []), (1, .box [S s]), (901, .box [S s])]) ?_ rfl rfl
 have hsp := zeg s hs (fun i q => (q.length : Int) ≤ 4 * i) (fun _ _ => true) (fun q u => q ++ pcU s u) (foW s H) (fun x => rfl) (fun x u hu h1 _ => by
  have h2 := zgy s u.1 u.2.1 u.2.2 hu.a0 hu.n1 hu.e
  have h3 := zee (pcS s u.1 u.2.1 u.2.2)
  rw [List.length_append, pcU]; omega) (fun hp x u hq h1 h2 => zna s hs H hp x u hq h1 h2) [] (by simp)
 refine z8b 999 5000 zrl rfl rfl rfl rfl rfl hsp (fun m h => h) ?_
 rintro r H2 ⟨_, rfl⟩
 rw [zom]
 have hstr := zua s
 generalize zfb s [] (unF 0 (rst s 0)) = Q at *
 refine ⟨.ready, none, zrl, _, H, rfl, by simp, ?_⟩
 refine z0y (tm' := [(1, .ptr (0, 1) 0), (3, .ptr (0, 3) 0)]) (hp' := [(3, .box [.ref (0, 5000)]), (5000, b8r Q)]) ?_ rfl rfl
 refine z4u 5000 rfl ?_
 repeat' (first | (apply z0e; (first | refine z13 rfl (by decide) ?_ | (apply z09; (refine z00 (z0k rfl rfl rfl rfl) rfl rfl (by decide) ?_)) | refine z00 (zr4 rfl rfl rfl) rfl rfl (by decide) ?_)) | (apply z0f; (first | refine z0z ?_ | apply z0c)) | (apply z0d; (first | apply z0h | apply z01 | apply z04)))
 all_goals try (exfalso; omega)
 all_goals exact z07 Tryz.func59 _ (z0a rfl rfl) ⟨congrArg (fun b => RV.v (S b)) hstr, rfl⟩
end Go.Proofs.YtjmbjgecfpggdaaGreatDoor
