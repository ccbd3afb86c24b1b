/- A part of the proof: G16, G17, G19, G20, G21, G30. -/
import Derived.Test.YtjmbjgecfpggdaaGreatDoorRt
import Derived.Test.YtjmbjgecfpggdaaGreatDoorRc
import Derived.Test.YtjmbjgecfpggdaaGreatDoorRx
set_option linter.all false
set_option linter.unusedVariables false
set_option linter.unusedSimpArgs false
namespace Go.Proofs.YtjmbjgecfpggdaaGreatDoor
open Go.Ab Go.Rx
set_option maxHeartbeats 20000000
set_option maxRecDepth 100000
attribute [local irreducible] Run Ops Op1 z2q Val Tr z1p z2j NF Rel z5b z5c
/-- a unit: the code point, its place, its size -/
abbrev Un := Int × Int × Int
abbrev unc (u : Un) : List D := [zn0 u.1, z48 u.2.1, z48 u.2.2]
def unF : Nat → List U → List Un
 | _, [] => []
 | i, u :: l => (u.r, (i : Int), (u.n : Int)) :: unF (i + u.n) l
/-- what becomes of a taker's state -/
def zgj {σ : Type} (go : σ → Un → Bool) (stp : σ → Un → σ) : σ → List Un → σ
 | x, [] => x
 | x, u :: l => if go x u = true then zgj go stp (stp x u) l else stp x u
theorem zgl (s : ByteArray) (H : Hf) (h1 : H 0 901 = some .gone) (q1 : z8c H (0, 901)) :
  z9b Tryz.prog 31 [S s] H ⟨fun r H' => r = .v (.fn (.func 50) [] [.ptr (0, 901) 0]) ∧ H' = upd H (0, 901) (.box [S s]), fun x => x = (0, 901) ∨ x = (0, 902), none⟩ := by
 refine z4y Tryz.func31 (by kernel_rfl) rfl (by simp) ?_
 dsimp only [Tryz.f31]
 repeat' (first | (apply z0e; (first | refine z11 rfl (by decide) ?_ | (apply z3b; (refine z0k (z6a rfl rfl rfl rfl rfl (by decide)) ?_)) | refine zt6 rfl rfl (by decide) ?_)) | (apply z0b; (first | refine z10 ?_ | apply z0d)) | (apply z0c; (first | apply z0f | apply z01)))
 refine zrm 1 0 901 (q := .box [S s]) rfl rfl h1 (.inl rfl) (by simp [z3s, Blk.says, PV.says, PV.saysL, PV.lift]) q1 ?_
 exact z0g Tryz.func31 _ (zsu (.fn (.func 50) [] [.ptr (0, 901) 0]) rfl rfl) ⟨rfl, rfl⟩
structure zu0 (s : ByteArray) (u : Un) : Prop where
 r0 : 0 ≤ u.1
 r1 : u.1 ≤ 1114111
 a0 : 0 ≤ u.2.1
 n1 : 1 ≤ u.2.2
 e : u.2.1 + u.2.2 ≤ s.size
theorem ze4 {σ : Type} (s : ByteArray) (hs : s.size ≤ 1000000) (ok : Int → σ → Prop) (go : σ → Un → Bool) (stp : σ → Un → σ) (W : σ → Hf) (hW : ∀ x, W x 0 901 = some (.box [S s]))
  (hok : ∀ x u, zu0 s u → ok u.2.1 x → go x u = true → ok (u.2.1 + u.2.2) (stp x u))
  (hY : ∀ (hp : Hp) (x : σ) (u : Un), z3s (1, 5000) hp = true → ok u.2.1 x → zu0 s u → zee Tryz.prog (1, 999) [.d (.agg (unc u))] (push hp (W x)) (fun r H' => r = .v (B (go x u)) ∧ H' = push hp (W (stp x u))) (fun y => y = (1, 5000)))
  (x0 : σ) (h0 : ok 0 x0) : z9b Tryz.prog 50 [.yl (0, 999), .ptr (0, 901) 0] (W x0) ⟨fun r H' => r = .v (.tup []) ∧ H' = W (zgj go stp x0 (unF 0 (rst s 0))), fun x => x = (0, 5000), none⟩ := by
 refine z4y Tryz.func50 (by kernel_rfl) rfl (by simp) ?_
 dsimp only [Tryz.f50]
 have hw0 := hW x0
 obtain ⟨T, hT⟩ : ∃ T, zgj go stp x0 (unF 0 (rst s 0)) = T := ⟨_, rfl⟩
 rw [hT]
 repeat' (first | (apply z0e; (first | (apply z0a; (refine z00 (z0u (b := .box [S s]) rfl rfl rfl rfl) rfl (bkN hw0) (by decide) ?_)) | (apply z05; (refine z06 rfl rfl rfl rfl rfl rfl ?_)) | (apply z0n; (refine z0k (z0l rfl rfl (by decide)) ?_)) | (apply z0y; (refine z0x rfl rfl rfl rfl rfl rfl rfl (by decide) ?_)) | refine zab rfl rfl rfl (by decide) ?_)) | (apply z0b; (first | refine z10 ?_ | apply z0d)) | (apply z0c; (first | apply z0f | apply z01 | apply z03)))
 all_goals try (exfalso; omega)
 refine z1x ?_
 refine z0s (z2u (fun q : Nat × Int × Int × σ => ⟨42, [(0, .yl (1, 999)), (1, .ptr (1, 901) 0), (3, .ptr (0, 3) 0), (8, .ptr (0, 8) 0)], [(3, .box [I .i32 q.2.1, I .i64 q.2.2.1, I .i64 0]), (8, .siter s q.1)], W q.2.2.2⟩)
  (fun q => q.1 ≤ s.size ∧ (0 ≤ q.2.2.1 → ok q.2.2.1 q.2.2.2) ∧ ((q.1 = 0 ∧ q.2.2.1 = -1 ∧ q.2.2.2 = x0) ∨ (0 ≤ q.2.2.1 ∧ q.2.2.1 < q.1 ∧ 0 ≤ q.2.1 ∧ q.2.1 ≤ 1114111 ∧ zgj go stp q.2.2.2 ((q.2.1, q.2.2.1, (q.1 : Int) - q.2.2.1) :: unF q.1 (rst s q.1)) = T))) (fun q => s.size - q.1) ?_ (0, 0, -1, x0) ⟨Nat.zero_le _, fun h => by simp at h, .inl ⟨rfl, rfl, rfl⟩⟩) rfl rfl
 rintro ⟨q, r, a, x⟩ ⟨i1, i2, i3⟩ ih
 simp only at i1 i2 i3 ih ⊢
 have hwx := hW x
 by_cases hlt : q < s.size
 · have hd := z4b hlt
   have hw := z7e s q hlt
   have hdh := zcz s q
   rcases i3 with ⟨rfl, rfl, rfl⟩ | ⟨a0, a1, r0, r1, hrun⟩
   · have ih' := ih (0 + (Utf8.decode s 0).2, ((Utf8.decode s 0).1 : Nat), 0, x) ⟨by simp only; omega, fun _ => h0, .inr ⟨by simp, by simp only; omega, by simp only; omega, by simp only; omega, by
      rw [hd] at hT
      simp only [unF] at hT
      simp only [Int.sub_zero]
      rw [← hT]; simp⟩⟩ (by simp only; omega)
     repeat' (first | (apply z0e; (first | refine z11 rfl (by decide) ?_ | (apply z0a; (refine z00 (z0u rfl rfl rfl rfl) rfl rfl (by decide) ?_)) | (apply z07; (refine z00 (z04 rfl rfl) rfl rfl (by decide) ?_)) | (apply z13; (refine z00 (z42 (z1o (by omega) (by omega))) rfl rfl (by decide) ?_)) | (apply z05; (refine z06 rfl rfl rfl rfl rfl rfl ?_)) | (apply z0y; (refine z0x rfl rfl rfl rfl rfl rfl rfl (by decide) ?_)) | refine z3l hlt rfl rfl (by decide) ?_)) | (apply z0b; (first | refine z10 ?_ | apply z0d | refine z2f rfl rfl (by decide) ?_)) | (apply z0c; (first | apply z0f | apply z01 | refine z0r rfl ?_ | refine z0h rfl ?_ | apply z09 | apply z03 | apply z08)))
     all_goals try (exfalso; omega)
     all_goals exact z0s ih' rfl rfl
   · have hu : zu0 s (r, a, (q : Int) - a) := ⟨r0, r1, a0, by simp only; omega, by simp only; omega⟩
     rw [zgj] at hrun
     cases hg : go x (r, a, (q : Int) - a) with
     | true =>
      rw [if_pos hg] at hrun
      have hy : ∀ hp : Hp, z3s (1, 5000) hp = true → zee Tryz.prog (1, 999) [.d (.agg (unc (r, a, (q : Int) - a)))] (push hp (W x)) (fun r' H' => r' = .v (B true) ∧ H' = push hp (W (stp x (r, a, (q : Int) - a)))) (fun y => y = (1, 5000)) := fun hp hqq => by
       have := hY hp x _ hqq (i2 a0) hu
       rwa [hg] at this
      have ih' := ih (q + (Utf8.decode s q).2, ((Utf8.decode s q).1 : Nat), (q : Nat), stp x (r, a, (q : Int) - a)) ⟨by simp only; omega, fun _ => by have := hok _ _ hu (i2 a0) hg; simp only at this; rwa [show a + ((q : Int) - a) = (q : Nat) by omega] at this, .inr ⟨by simp only; omega, by simp only; omega, by simp only; omega, by simp only; omega, by
       rw [hd] at hrun
       simp only [unF] at hrun
       rw [show ((q + (Utf8.decode s q).2 : Nat) : Int) - (q : Nat) = ((Utf8.decode s q).2 : Nat) by omega]
       exact hrun⟩⟩ (by simp only; omega)
      repeat' (first | (apply z0e; (first | refine zdn (mv := (0, 5000)) (hy _ (by rfl)) rfl rfl rfl rfl (by decide) ?_ | refine z11 rfl (by decide) ?_ | (apply z0a; (first | refine z00 (z0u rfl rfl rfl rfl) rfl rfl (by decide) ?_ | refine z00 (z15 rfl rfl rfl rfl) rfl rfl (by decide) ?_)) | (apply z07; (refine z00 (z04 rfl rfl) rfl rfl (by decide) ?_)) | (apply z13; (refine z00 (z42 (z1o (by omega) (by omega))) rfl rfl (by decide) ?_)) | (apply z05; (refine z06 rfl rfl rfl rfl rfl rfl ?_)) | (apply z0y; (refine z0x rfl rfl rfl rfl rfl rfl rfl (by decide) ?_)) | refine z3l hlt rfl rfl (by decide) ?_)) | (apply z0b; (first | refine z10 ?_ | apply z0d | refine z2f rfl rfl (by decide) ?_ | refine z16 rfl rfl (fun _ => ?_) (fun _ => ?_))) | (apply z0c; (first | apply z0f | apply z01 | refine z0r rfl ?_ | refine z0h rfl ?_ | apply z09 | apply z03 | apply z08)))
      all_goals try (exfalso; omega)
      all_goals exact z0s ih' rfl rfl
     | false =>
      rw [if_neg (by rw [hg]; decide)] at hrun
      have hy : ∀ hp : Hp, z3s (1, 5000) hp = true → zee Tryz.prog (1, 999) [.d (.agg (unc (r, a, (q : Int) - a)))] (push hp (W x)) (fun r' H' => r' = .v (B false) ∧ H' = push hp (W (stp x (r, a, (q : Int) - a)))) (fun y => y = (1, 5000)) := fun hp hqq => by
       have := hY hp x _ hqq (i2 a0) hu
       rwa [hg] at this
      repeat' (first | (apply z0e; (first | refine zdn (mv := (0, 5000)) (hy _ (by rfl)) rfl rfl rfl rfl (by decide) ?_ | refine z11 rfl (by decide) ?_ | (apply z0a; (first | refine z00 (z0u rfl rfl rfl rfl) rfl rfl (by decide) ?_ | refine z00 (z15 rfl rfl rfl rfl) rfl rfl (by decide) ?_)) | (apply z07; (refine z00 (z04 rfl rfl) rfl rfl (by decide) ?_)) | (apply z13; (refine z00 (z42 (z1o (by omega) (by omega))) rfl rfl (by decide) ?_)) | (apply z05; (refine z06 rfl rfl rfl rfl rfl rfl ?_)) | (apply z0y; (refine z0x rfl rfl rfl rfl rfl rfl rfl (by decide) ?_)) | refine z3l hlt rfl rfl (by decide) ?_)) | (apply z0b; (first | refine z10 ?_ | apply z0d | refine z2f rfl rfl (by decide) ?_ | refine z16 rfl rfl (fun _ => ?_) (fun _ => ?_))) | (apply z0c; (first | apply z0f | apply z01 | refine z0r rfl ?_ | refine z0h rfl ?_ | apply z09 | apply z03 | apply z08)))
      all_goals try (exfalso; omega)
      all_goals exact z0g Tryz.func50 _ (z4l rfl) ⟨rfl, congrArg W hrun⟩
 · obtain rfl : q = s.size := by omega
   have hd := z34 (s := s) (i := s.size) (Nat.le_refl _)
   rcases i3 with ⟨h1, rfl, rfl⟩ | ⟨a0, a1, r0, r1, hrun⟩
   · rw [← h1, hd] at hT
     simp only [unF, zgj] at hT
     repeat' (first | (apply z0e; (first | refine z11 rfl (by decide) ?_ | (apply z0a; (first | refine z00 (z0u (b := .box [S s]) rfl rfl rfl rfl) rfl (bkN hwx) (by decide) ?_ | refine z00 (z0u rfl rfl rfl rfl) rfl rfl (by decide) ?_)) | (apply z07; (refine z00 (z04 rfl rfl) rfl rfl (by decide) ?_)) | (apply z13; (refine z00 (z42 (z1o (by omega) (by omega))) rfl rfl (by decide) ?_)) | (apply z1e; (refine z00 (z3v rfl) rfl rfl (by decide) ?_)) | (apply z05; (refine z06 rfl rfl rfl rfl rfl rfl ?_)) | refine z3m hlt rfl rfl (by decide) ?_)) | (apply z0b; (first | refine z10 ?_ | apply z0d)) | (apply z0c; (first | apply z0f | apply z01 | refine z0h rfl ?_ | apply z09 | refine z0p rfl ?_)))
     all_goals try (exfalso; omega)
     all_goals exact zdv Tryz.func50 _ (z4l rfl) ⟨rfl, congrArg W hT⟩
   · have hu : zu0 s (r, a, (s.size : Int) - a) := ⟨r0, r1, a0, by simp only; omega, by simp only; omega⟩
     rw [hd] at hrun
     simp only [unF, zgj, ite_self] at hrun
     repeat' (first | (apply z0e; (first | refine zdn (mv := (0, 5000)) (hY _ x (r, a, (s.size : Int) - a) (by rfl) (i2 a0) hu) rfl rfl rfl rfl (by decide) ?_ | refine z11 rfl (by decide) ?_ | (apply z0a; (first | refine z00 (z0u (b := .box [S s]) rfl rfl rfl rfl) rfl (bkN hwx) (by decide) ?_ | refine z00 (z0u rfl rfl rfl rfl) rfl rfl (by decide) ?_ | refine z00 (z15 rfl rfl rfl rfl) rfl rfl (by decide) ?_)) | (apply z07; (refine z00 (z04 rfl rfl) rfl rfl (by decide) ?_)) | (apply z13; (refine z00 (z42 (z1o (by omega) (by omega))) rfl rfl (by decide) ?_)) | (apply z1e; (refine z00 (z3v rfl) rfl rfl (by decide) ?_)) | (apply z05; (refine z06 rfl rfl rfl rfl rfl rfl ?_)) | refine z3m hlt rfl rfl (by decide) ?_)) | (apply z0b; (first | refine z10 ?_ | apply z0d)) | (apply z0c; (first | apply z0f | apply z01 | refine z0h rfl ?_ | apply z09 | refine z1i rfl (fun _ => ?_) (fun _ => ?_) | refine z0p rfl ?_)))
     all_goals try (exfalso; omega)
     all_goals exact zdv Tryz.func50 _ (z4l rfl) ⟨rfl, congrArg W hrun⟩
end Go.Proofs.YtjmbjgecfpggdaaGreatDoor
namespace Go.Proofs.YtjmbjgecfpggdaaGreatDoor
open Go.Ab Go.Rx
set_option maxHeartbeats 20000000
set_option maxRecDepth 100000
attribute [local irreducible] Run Ops Op1 z2q Val Tr z1p z2j NF Rel z5b z5c
theorem zbi {hp : Hp} {up : Hf} (c : Nat) {q : Blk} : upd (push hp up) (0, c) q = push ((c, q) :: hp) up := by
 funext d s
 cases d with
 | zero =>
  simp only [upd, push, Ab.look, true_and]
  by_cases h1 : s = c
  · rw [if_pos h1, if_pos h1.symm]
  · rw [if_neg h1, if_neg (Ne.symm h1)]
 | succ d => simp [upd, push]
def atR (s : ByteArray) (i : Nat) : PV := match (unF 0 (rst s 0))[i]? with
 | some u => .tup [I .i32 u.1, I .i64 u.2.1, I .i64 u.2.2, B true]
 | none => .tup [I .i32 0, I .i64 0, I .i64 0, B false]
noncomputable def zl1 : Code := match Tryz.f14.body with | some (.seq _ (.seq (.seq _ (.block _ (.rangeFunc _ _ a _))) _)) => a | _ => .skip
noncomputable def zf3 : Code := match Tryz.f14.body with | some (.seq _ (.seq (.seq _ (.block _ (.rangeFunc _ _ _ b))) _)) => b | _ => .skip
def zjh : List (Nat × PV) := [(3, .ptr (0, 3) 0), (4, .ptr (0, 4) 0), (5, .ptr (0, 5) 0), (6, .ptr (0, 6) 0), (7, .ptr (0, 7) 0)]
noncomputable def zi7 (state : LoopState) (j : Option Code) : Blk := .lp 22 14 #[11] zl1 zf3 zjh state j
inductive AtS where
 | run (i : Nat)
 | fin (u : Un)
noncomputable def atW (s : ByteArray) (H : Hf) : AtS → Hf
 | .run i => push [(999, zi7 .ready none), (7, .box [B false]), (6, .box [I .i64 0]), (5, .box [I .i64 0]), (4, .box [I .i32 0]), (3, .box [I .i64 (i : Nat)]), (901, .box [S s])] H
 | .fin u => push [(999, zi7 .done (some .ret)), (7, .box [B true]), (6, .box [I .i64 u.2.2]), (5, .box [I .i64 u.2.1]), (4, .box [I .i32 u.1]), (3, .box [I .i64 0]), (901, .box [S s])] H
def zui : AtS → Un → Bool
 | .run 0, _ => false
 | .run (_ + 1), _ => true
 | .fin _, _ => false
def zj1 : AtS → Un → AtS
 | .run 0, u => .fin u
 | .run (i + 1), _ => .run i
 | .fin v, _ => .fin v
def zw4 : AtS → Prop
 | .run i => i ≤ 1000000
 | .fin _ => False
theorem zpg : ∀ (l : List Un) (i : Nat), zgj zui zj1 (.run i) l = match l[i]? with | some u => .fin u | none => .run (i - l.length)
 | [], i => by simp [zgj]
 | u :: l, 0 => by rw [zgj, if_neg (by simp [zui])]; rfl
 | u :: l, i + 1 => by
  rw [zgj, if_pos (by rfl), show zj1 (.run (i + 1)) u = .run i from rfl, zpg l i, List.getElem?_cons_succ, List.length_cons, show i + 1 - (l.length + 1) = i - l.length by omega]
theorem zms (s : ByteArray) (H : Hf) (hp : Hp) (x : AtS) (u : Un) (hx : zw4 x) : zee Tryz.prog (1, 999) [.d (.agg (unc u))] (push hp (atW s H x)) (fun r H' => r = .v (B (zui x u)) ∧ H' = push hp (atW s H (zj1 x u))) (fun y => y = (1, 5000)) := by
 match x, hx with
 | .run 0, _ =>
  refine zt5 (n' := 22) (f' := 14) (t0 := 11) (asg := zl1) (body := zf3) (st := zjh) (pend := none) (R2 := fun r H' => r = .v (B false) ∧ H' = upd (upd (upd (upd (upd (push hp (atW s H (.run 0))) (1, 999) (zi7 .busy none)) (1, 4) (.box [I .i32 u.1])) (1, 5) (.box [I .i64 u.2.1])) (1, 6) (.box [I .i64 u.2.2])) (1, 7) (.box [B true])) rfl (by decide) (by simp) ?_ ?_ ?_ ?_
  · rw [show z2z (1 + 1) zjh = [(3, .ptr (2, 3) 0), (4, .ptr (2, 4) 0), (5, .ptr (2, 5) 0), (6, .ptr (2, 6) 0), (7, .ptr (2, 7) 0)] by simp [zjh, z2z, PV.lift]]
    dsimp only [zl1, zf3, Tryz.f14]
    have hb3 : upd (push hp (atW s H (.run 0))) (1, 999) (zi7 .busy none) 1 3 = some (.box [I .i64 0]) := rfl
    repeat' (first | (apply z0e; (first | (apply z05; (refine z06 rfl rfl rfl rfl rfl rfl ?_)) | (apply z0n; (refine z0k (z0l rfl rfl (by decide)) ?_)))) | (apply z0b; (first | refine z10 ?_ | apply z0d)) | (apply z0c; (apply z01)))
    refine zbj rfl rfl ?_
    change Run _ _ _ _ ⟨_, _, _, upd (push hp (atW s H (.run 0))) (1, 999) (zi7 .busy none)⟩
    have hb4 : upd (push hp (atW s H (.run 0))) (1, 999) (zi7 .busy none) 1 4 = some (.box [I .i32 0]) := rfl
    have hb5 : upd (push hp (atW s H (.run 0))) (1, 999) (zi7 .busy none) 1 5 = some (.box [I .i64 0]) := rfl
    have hb6 : upd (push hp (atW s H (.run 0))) (1, 999) (zi7 .busy none) 1 6 = some (.box [I .i64 0]) := rfl
    have hb7 : upd (push hp (atW s H (.run 0))) (1, 999) (zi7 .busy none) 1 7 = some (.box [B false]) := rfl
    generalize upd (push hp (atW s H (.run 0))) (1, 999) (zi7 .busy none) = V at *
    repeat' (first | (apply z0e; (first | refine z11 rfl (by decide) ?_ | (apply z0a; (refine z00 (z0u (b := .box [I .i64 0]) rfl rfl rfl rfl) rfl (bkN hb3) (by decide) ?_)))) | (apply z0b; (first | refine z10 ?_ | apply z0d)) | (apply z0c; (first | apply z0f | apply z01 | refine z0r rfl ?_ | apply z03 | apply z56)) | (apply z57; (first | (apply z2g; refine z3o mix (by kernel_rfl) ?_) | (apply z1r; (refine z1d (z0u rfl rfl rfl rfl) (by first | exact rfl | exact ⟨_, rfl, rfl, rfl⟩) rfl rfl (by decide) ?_)) | (apply z1l; (refine z1d (z04 rfl rfl) (by first | exact rfl | exact ⟨_, rfl, rfl, rfl⟩) rfl rfl (by decide) ?_)) | (apply z3w; (first | refine zay (raw' := .box [B true]) (by first | exact rfl | exact ⟨_, rfl, rfl, rfl⟩) rfl (z18 (z18 (z18 hb7 (by simp)) (by simp)) (by simp)) rfl rfl rfl rfl rfl rfl ?_ | refine zay (raw' := .box [I .i64 u.2.2]) (by first | exact rfl | exact ⟨_, rfl, rfl, rfl⟩) rfl (z18 (z18 hb6 (by simp)) (by simp)) rfl rfl rfl rfl rfl rfl ?_ | refine zay (raw' := .box [I .i64 u.2.1]) (by first | exact rfl | exact ⟨_, rfl, rfl, rfl⟩) rfl (z18 hb5 (by simp)) rfl rfl rfl rfl rfl rfl ?_ | refine zay (raw' := .box [I .i32 u.1]) (by first | exact rfl | exact ⟨_, rfl, rfl, rfl⟩) rfl hb4 rfl rfl rfl rfl rfl rfl ?_)))))
    all_goals try (exfalso; omega)
    all_goals exact zbw rfl ⟨rfl, rfl⟩
  · rintro H' ⟨h, _⟩; cases h
  · rintro H' ⟨_, rfl⟩
    refine ⟨zjh, none, z18 (z18 (z18 (z18 (z43 _ _ _) (by simp)) (by simp)) (by simp)) (by simp), rfl, ?_⟩
    funext d t
    match d with
    | 0 => rfl
    | d + 2 => rfl
    | 1 =>
     by_cases h1 : t = 999
     · subst h1; rfl
     by_cases h2 : t = 7
     · subst h2; rfl
     by_cases h3 : t = 6
     · subst h3; rfl
     by_cases h4 : t = 5
     · subst h4; rfl
     by_cases h5 : t = 4
     · subst h5; rfl
     have k1 := Ne.symm h1
     have k2 := Ne.symm h2
     have k3 := Ne.symm h3
     have k4 := Ne.symm h4
     have k5 := Ne.symm h5
     simp [upd, push, atW, zj1, Ab.look, h1, h2, h3, h4, h5, k1, k2, k3, k4, k5]
  · rintro id H' ⟨h, _⟩; cases h
 | .run (i + 1), h =>
  have hi : i + 1 ≤ 1000000 := h
  refine zt5 (n' := 22) (f' := 14) (t0 := 11) (asg := zl1) (body := zf3) (st := zjh) (pend := none) (R2 := fun r H' => r = .v (B true) ∧ H' = upd (upd (push hp (atW s H (.run (i + 1)))) (1, 999) (zi7 .busy none)) (1, 3) (.box [I .i64 (i : Nat)])) rfl (by decide) (by simp) ?_ ?_ ?_ ?_
  · rw [show z2z (1 + 1) zjh = [(3, .ptr (2, 3) 0), (4, .ptr (2, 4) 0), (5, .ptr (2, 5) 0), (6, .ptr (2, 6) 0), (7, .ptr (2, 7) 0)] by simp [zjh, z2z, PV.lift]]
    dsimp only [zl1, zf3, Tryz.f14]
    repeat' (first | (apply z0e; (first | (apply z05; (refine z06 rfl rfl rfl rfl rfl rfl ?_)) | (apply z0n; (refine z0k (z0l rfl rfl (by decide)) ?_)))) | (apply z0b; (first | refine z10 ?_ | apply z0d)) | (apply z0c; (apply z01)))
    refine zbj rfl rfl ?_
    change Run _ _ _ _ ⟨_, _, _, upd (push hp (atW s H (.run (i + 1)))) (1, 999) (zi7 .busy none)⟩
    have hb3 : upd (push hp (atW s H (.run (i + 1)))) (1, 999) (zi7 .busy none) 1 3 = some (.box [I .i64 ((i + 1 : Nat) : Int)]) := rfl
    generalize upd (push hp (atW s H (.run (i + 1)))) (1, 999) (zi7 .busy none) = V at *
    repeat' (first | (apply z0e; (first | refine z11 rfl (by decide) ?_ | (apply z0a; (refine z00 (z0u (b := .box [I .i64 ((i + 1 : Nat) : Int)]) rfl rfl rfl rfl) rfl (bkN hb3) (by decide) ?_)) | (apply z13; (refine z00 (z42 (z1o (by omega) (by omega))) rfl rfl (by decide) ?_)) | (apply z05; (refine z0w (raw' := .box [I .i64 (((i + 1 : Nat) : Int) - 1)]) rfl hb3 rfl rfl rfl rfl rfl rfl ?_)))) | (apply z0b; (first | refine z10 ?_ | apply z0d)) | (apply z0c; (first | apply z0f | apply z01 | refine z0h rfl ?_ | apply z09 | apply z03 | apply z08)))
    all_goals try (exfalso; omega)
    all_goals (rw [show ((i + 1 : Nat) : Int) - 1 = (i : Nat) by omega]; exact zdz rfl ⟨rfl, rfl⟩)
  · rintro H' ⟨_, rfl⟩
    refine ⟨zjh, none, z18 (z43 _ _ _) (by simp), rfl, ?_⟩
    funext d t
    match d with
    | 0 => rfl
    | d + 2 => rfl
    | 1 =>
     by_cases h1 : t = 999
     · subst h1; rfl
     by_cases h2 : t = 7
     · subst h2; rfl
     by_cases h3 : t = 6
     · subst h3; rfl
     by_cases h4 : t = 5
     · subst h4; rfl
     by_cases h5 : t = 4
     · subst h5; rfl
     by_cases h6 : t = 3
     · subst h6; rfl
     have k1 := Ne.symm h1
     have k2 := Ne.symm h2
     have k3 := Ne.symm h3
     have k4 := Ne.symm h4
     have k5 := Ne.symm h5
     have k6 := Ne.symm h6
     simp [upd, push, atW, zj1, Ab.look, h1, h2, h3, h4, h5, h6, k1, k2, k3, k4, k5, k6]
  · rintro H' ⟨h, _⟩; cases h
  · rintro id H' ⟨h, _⟩; cases h
theorem zw7 (s : ByteArray) (hs : s.size ≤ 1000000) (i : Nat) (hi : i ≤ 1000000) : z1p Tryz.prog 14 [S s, I .i64 (i : Nat)] (atR s i) := by
 refine z2e fun H => ?_
 refine z1c Tryz.func14 (by kernel_rfl) rfl (by simp) ?_
 dsimp only [Tryz.f14]
 refine zeb 901 ?_
 have h37 : ∀ (hp : Hp), Ab.look hp 901 = some Blk.gone → z3s (0, 901) hp = true → z9b Tryz.prog 31 [S s] (push hp H) ⟨fun r H' => r = .v (.fn (.func 50) [] [.ptr (0, 901) 0]) ∧ H' = push ((901, .box [S s]) :: hp) H, fun x => x = (0, 901) ∨ x = (0, 902), none⟩ := by
  intro hp h1 q1
  have qq : ∀ x, z3s (0, x) hp = true → z8c (push hp H) (0, x) := fun x q e t b he hb => by
   obtain rfl : e = 0 := by simp at he; omega
   exact z4p q hb
  have := zgl s (push hp H) h1 (qq 901 q1)
  rw [zbi] at this
  exact this
 repeat' (first | (apply z0e; (first | refine zgb (h37 _ rfl rfl) rfl rfl rfl (by decide) ?_ | refine z11 rfl (by decide) ?_ | (apply z0n; (refine z0k (z0l rfl rfl (by decide)) ?_)) | (apply z3b; (refine z0k (z6a rfl rfl rfl rfl rfl (by decide)) ?_)))) | (apply z0b; (first | refine z10 ?_ | apply z0d)) | (apply z0c; (first | apply z0f | apply z01 | apply z03)))
 all_goals try (exfalso; omega)
 refine z0s (tm' := [(3, .ptr (0, 3) 0), (4, .ptr (0, 4) 0), (5, .ptr (0, 5) 0), (6, .ptr (0, 6) 0), (7, .ptr (0, 7) 0), (10, .fn (.func 50) [] [.ptr (0, 901) 0])]) (hp' := [(7, .box [B false]), (6, .box [I .i64 0]), (5, .box [I .i64 0]), (4, .box [I .i32 0]), (3, .box [I .i64 (i : Nat)]), (901, .box [S s])]) ?_ rfl rfl
 have hsp := ze4 s hs (fun _ => zw4) zui zj1 (atW s H) (fun x => by cases x <;> rfl) (fun x u _ h1 h2 => by
  match x, h1, h2 with
  | .run (i + 1), h1, _ => have h1 : i + 1 ≤ 1000000 := h1; show i ≤ 1000000; omega) (fun hp x u _ h1 h2 => zms s H hp x u h1) (.run i) hi
 refine z8r 999 5000 zjh rfl rfl rfl rfl rfl hsp (fun m h => h) ?_
 rintro r H2 ⟨_, rfl⟩
 rw [zpg, atR]
 cases (unF 0 (rst s 0))[i]? with
 | some u =>
  refine ⟨.done, some .ret, zjh, _, H, rfl, by simp, ?_⟩
  exact z0g Tryz.func14 _ (zf1 rfl rfl rfl rfl rfl rfl rfl rfl rfl rfl rfl rfl rfl rfl rfl rfl rfl) ⟨rfl, rfl⟩
 | none =>
  refine ⟨.ready, none, zjh, _, H, rfl, by simp, ?_⟩
  refine z0s (tm' := [(3, .ptr (0, 3) 0), (4, .ptr (0, 4) 0), (5, .ptr (0, 5) 0), (6, .ptr (0, 6) 0), (7, .ptr (0, 7) 0)]) (hp' := [(7, .box [B false]), (6, .box [I .i64 0]), (5, .box [I .i64 0]), (4, .box [I .i32 0])]) ?_ rfl rfl
  repeat' (first | (apply z0e; ((apply z05; (refine z06 rfl rfl rfl rfl rfl rfl ?_)))) | (apply z0b; (first | refine z10 ?_ | apply z0d)) | (apply z0c; (first | apply z0f | apply z01 | apply z08)))
  all_goals try (exfalso; omega)
  all_goals exact z0g Tryz.func14 _ (zf1 rfl rfl rfl rfl rfl rfl rfl rfl rfl rfl rfl rfl rfl rfl rfl rfl rfl) ⟨rfl, rfl⟩
end Go.Proofs.YtjmbjgecfpggdaaGreatDoor
namespace Go.Proofs.YtjmbjgecfpggdaaGreatDoor
open Go.Ab Go.Rx
set_option maxHeartbeats 20000000
set_option maxRecDepth 100000
attribute [local irreducible] Run Ops Op1 z2q Val Tr z1p z2j NF Rel z5b z5c
def okU (u : Un) : Bool := !decide (u.1 = 65533) || decide (u.2.2 = 3)
theorem znw (u : Un) : z1p Tryz.prog 74 [.d (.agg (unc u))] (B (okU u)) := by
 refine z2e fun H => ?_
 refine z1c Tryz.func74 (by kernel_rfl) rfl (by simp) ?_
 dsimp only [Tryz.f74]
 rw [okU]
 by_cases h : u.1 = 65533
 · rw [decide_eq_true h, Bool.not_true, Bool.false_or]
   repeat' (first | (apply z0e; (first | refine z11 rfl (by decide) ?_ | (apply z0a; (refine z00 (z0u rfl rfl rfl rfl) rfl rfl (by decide) ?_)) | (apply z07; (refine z00 (z04 rfl rfl) rfl rfl (by decide) ?_)) | (apply z3b; (refine z0k (z2m rfl rfl (by decide)) ?_)))) | (apply z0b; (first | refine z10 ?_ | apply z0d | refine z2f rfl rfl (by decide) ?_ | refine z2s rfl rfl (fun _ => ?_) (fun _ => ?_))) | (apply z0c; (first | apply z0f | apply z01)))
   all_goals try (exfalso; omega)
   all_goals exact z0g Tryz.func74 _ (z0j rfl rfl) ⟨rfl, rfl⟩
 · rw [decide_eq_false h, Bool.not_false, Bool.true_or]
   repeat' (first | (apply z0e; (first | refine z11 rfl (by decide) ?_ | (apply z0a; (refine z00 (z0u rfl rfl rfl rfl) rfl rfl (by decide) ?_)) | (apply z07; (refine z00 (z04 rfl rfl) rfl rfl (by decide) ?_)) | (apply z3b; (refine z0k (z2m rfl rfl (by decide)) ?_)))) | (apply z0b; (first | refine z10 ?_ | apply z0d | refine z2f rfl rfl (by decide) ?_ | refine z2s rfl rfl (fun _ => ?_) (fun _ => ?_))) | (apply z0c; (first | apply z0f | apply z01)))
   all_goals try (exfalso; omega)
   all_goals exact z0g Tryz.func74 _ (z0j rfl rfl) ⟨rfl, rfl⟩
noncomputable def zls : Code := match Tryz.f55.body with | some (.seq _ (.seq (.seq _ (.block _ (.rangeFunc _ _ a _))) _)) => a | _ => .skip
noncomputable def zfo : Code := match Tryz.f55.body with | some (.seq _ (.seq (.seq _ (.block _ (.rangeFunc _ _ _ b))) _)) => b | _ => .skip
def zjf : List (Nat × PV) := [(2, .ptr (0, 2) 0)]
noncomputable def zof (state : LoopState) (j : Option Code) : Blk := .lp 10 55 #[6] zls zfo zjf state j
/-- still reading, or not any more -/
noncomputable def vaW (s : ByteArray) (H : Hf) : Bool → Hf
 | true => push [(999, zof .ready none), (2, .box [B false]), (901, .box [S s])] H
 | false => push [(999, zof .done (some .ret)), (2, .box [B false]), (901, .box [S s])] H
theorem zpd : ∀ l : List Un, zgj (fun (_ : Bool) u => okU u) (fun _ u => okU u) true l = l.all okU
 | [] => rfl
 | u :: l => by
  rw [zgj, List.all_cons]
  cases h : okU u with
  | true => rw [if_pos rfl, zpd l]; rfl
  | false => rw [if_neg (by decide)]; rfl
theorem zmn (s : ByteArray) (H : Hf) (hp : Hp) (u : Un) : zee Tryz.prog (1, 999) [.d (.agg (unc u))] (push hp (vaW s H true)) (fun r H' => r = .v (B (okU u)) ∧ H' = push hp (vaW s H (okU u))) (fun y => y = (1, 5000)) := by
 have huv := znw u
 cases ho : okU u with
 | false =>
  rw [ho] at huv
  refine zt5 (n' := 10) (f' := 55) (t0 := 6) (asg := zls) (body := zfo) (st := zjf) (pend := none) (R2 := fun r H' => r = .v (B false) ∧ H' = upd (upd (push hp (vaW s H true)) (1, 999) (zof .busy none)) (1, 2) (.box [B false])) rfl (by decide) (by simp) ?_ ?_ ?_ ?_
  · rw [show z2z (1 + 1) zjf = [(2, .ptr (2, 2) 0)] by simp [zjf, z2z, PV.lift]]
    dsimp only [zls, zfo, Tryz.f55]
    repeat' (first | (apply z0e; (first | (apply z05; (refine z06 rfl rfl rfl rfl rfl rfl ?_)) | (apply z0n; (refine z0k (z0l rfl rfl (by decide)) ?_)))) | (apply z0b; (first | refine z10 ?_ | apply z0d)) | (apply z0c; (apply z01)))
    refine zbj rfl rfl ?_
    change Run _ _ _ _ ⟨_, _, _, upd (push hp (vaW s H true)) (1, 999) (zof .busy none)⟩
    have hb2 : upd (push hp (vaW s H true)) (1, 999) (zof .busy none) 1 2 = some (.box [B false]) := rfl
    generalize upd (push hp (vaW s H true)) (1, 999) (zof .busy none) = V at *
    repeat' (first | (apply z0e; (first | refine z11 rfl (by decide) ?_ | (apply z0a; (refine z00 (z15 rfl rfl rfl rfl) rfl rfl (by decide) ?_)) | (apply z0o; (refine z2v huv rfl (by decide) ?_)) | (apply z05; (refine z0w (raw' := .box [B false]) rfl hb2 rfl rfl rfl rfl rfl rfl ?_)))) | (apply z0b; (first | refine z10 ?_ | apply z0d)) | (apply z0c; (first | apply z0f | apply z01 | refine z0r rfl ?_ | apply z03)))
    all_goals try (exfalso; omega)
    all_goals exact zbw rfl ⟨rfl, rfl⟩
  · rintro H' ⟨h, _⟩; cases h
  · rintro H' ⟨_, rfl⟩
    refine ⟨zjf, none, z18 (z43 _ _ _) (by simp), rfl, ?_⟩
    funext d t
    match d with
    | 0 => rfl
    | d + 2 => rfl
    | 1 =>
     by_cases h1 : t = 999
     · subst h1; rfl
     by_cases h2 : t = 2
     · subst h2; rfl
     have k1 := Ne.symm h1
     have k2 := Ne.symm h2
     simp [upd, push, vaW, Ab.look, h1, h2, k1, k2]
  · rintro id H' ⟨h, _⟩; cases h
 | true =>
  rw [ho] at huv
  refine zt5 (n' := 10) (f' := 55) (t0 := 6) (asg := zls) (body := zfo) (st := zjf) (pend := none) (R2 := fun r H' => r = .v (B true) ∧ H' = upd (push hp (vaW s H true)) (1, 999) (zof .busy none)) rfl (by decide) (by simp) ?_ ?_ ?_ ?_
  · rw [show z2z (1 + 1) zjf = [(2, .ptr (2, 2) 0)] by simp [zjf, z2z, PV.lift]]
    dsimp only [zls, zfo, Tryz.f55]
    repeat' (first | (apply z0e; (first | (apply z05; (refine z06 rfl rfl rfl rfl rfl rfl ?_)) | (apply z0n; (refine z0k (z0l rfl rfl (by decide)) ?_)))) | (apply z0b; (first | refine z10 ?_ | apply z0d)) | (apply z0c; (apply z01)))
    refine zbj rfl rfl ?_
    change Run _ _ _ _ ⟨_, _, _, upd (push hp (vaW s H true)) (1, 999) (zof .busy none)⟩
    generalize upd (push hp (vaW s H true)) (1, 999) (zof .busy none) = V at *
    repeat' (first | (apply z0e; (first | refine z11 rfl (by decide) ?_ | (apply z0a; (refine z00 (z15 rfl rfl rfl rfl) rfl rfl (by decide) ?_)) | (apply z0o; (refine z2v huv rfl (by decide) ?_)))) | (apply z0b; (first | refine z10 ?_ | apply z0d)) | (apply z0c; (first | apply z0f | apply z01 | refine z0h rfl ?_ | apply z09 | apply z03 | apply z08)))
    all_goals try (exfalso; omega)
    all_goals exact zdz rfl ⟨rfl, rfl⟩
  · rintro H' ⟨_, rfl⟩
    refine ⟨zjf, none, z43 _ _ _, rfl, ?_⟩
    funext d t
    match d with
    | 0 => rfl
    | d + 2 => rfl
    | 1 =>
     by_cases h1 : t = 999
     · subst h1; rfl
     have k1 := Ne.symm h1
     simp [upd, push, vaW, Ab.look, h1, k1]
  · rintro H' ⟨h, _⟩; cases h
  · rintro id H' ⟨h, _⟩; cases h
theorem zq0 (s : ByteArray) (hs : s.size ≤ 1000000) : z1p Tryz.prog 55 [S s] (B ((unF 0 (rst s 0)).all okU)) := by
 refine z2e fun H => ?_
 refine z1c Tryz.func55 (by kernel_rfl) rfl (by simp) ?_
 dsimp only [Tryz.f55]
 refine zeb 901 ?_
 have h37 : ∀ (hp : Hp), Ab.look hp 901 = some Blk.gone → z3s (0, 901) hp = true → z9b Tryz.prog 31 [S s] (push hp H) ⟨fun r H' => r = .v (.fn (.func 50) [] [.ptr (0, 901) 0]) ∧ H' = push ((901, .box [S s]) :: hp) H, fun x => x = (0, 901) ∨ x = (0, 902), none⟩ := by
  intro hp h1 q1
  have qq : ∀ x, z3s (0, x) hp = true → z8c (push hp H) (0, x) := fun x q e t b he hb => by
   obtain rfl : e = 0 := by simp at he; omega
   exact z4p q hb
  have := zgl s (push hp H) h1 (qq 901 q1)
  rw [zbi] at this
  exact this
 repeat' (first | (apply z0e; (first | refine zgb (h37 _ rfl rfl) rfl rfl rfl (by decide) ?_ | refine z11 rfl (by decide) ?_ | (apply z0n; (refine z0k (z0l rfl rfl (by decide)) ?_)))) | (apply z0b; (first | refine z10 ?_ | apply z0d)) | (apply z0c; (first | apply z0f | apply z01 | apply z03)))
 all_goals try (exfalso; omega)
 refine z0s (tm' := [(2, .ptr (0, 2) 0), (5, .fn (.func 50) [] [.ptr (0, 901) 0])]) (hp' := [(2, .box [B false]), (901, .box [S s])]) ?_ rfl rfl
 have hsp := ze4 s hs (fun _ b => b = true) (fun (_ : Bool) u => okU u) (fun _ u => okU u) (vaW s H) (fun x => by cases x <;> rfl) (fun x u _ h1 h2 => h2) (fun hp x u _ h1 h2 => by subst h1; exact zmn s H hp u) true rfl
 refine z8r 999 5000 zjf rfl rfl rfl rfl rfl hsp (fun m h => h) ?_
 rintro r H2 ⟨_, rfl⟩
 rw [zpd]
 cases (unF 0 (rst s 0)).all okU with
 | false =>
  refine ⟨.done, some .ret, zjf, _, H, rfl, by simp, ?_⟩
  exact z0g Tryz.func55 _ (zfj rfl rfl rfl rfl rfl) ⟨rfl, rfl⟩
 | true =>
  refine ⟨.ready, none, zjf, _, H, rfl, by simp, ?_⟩
  refine z0s (tm' := [(2, .ptr (0, 2) 0)]) (hp' := [(2, .box [B false])]) ?_ rfl rfl
  repeat' (first | (apply z0e; ((apply z05; (refine z06 rfl rfl rfl rfl rfl rfl ?_)))) | (apply z0b; (first | refine z10 ?_ | apply z0d)) | (apply z0c; (first | apply z0f | apply z01 | apply z08)))
  all_goals try (exfalso; omega)
  all_goals exact z0g Tryz.func55 _ (zfj rfl rfl rfl rfl rfl) ⟨rfl, rfl⟩
end Go.Proofs.YtjmbjgecfpggdaaGreatDoor
namespace Go.Proofs.YtjmbjgecfpggdaaGreatDoor
open Go.Ab Go.Rx
set_option maxHeartbeats 20000000
set_option maxRecDepth 100000
attribute [local irreducible] Run Ops Op1 z2q Val Tr z1p z2j NF Rel z5b z5c
theorem zpk (r : Int) (h0 : 0 ≤ r) (h1 : r ≤ 1114111) : z1p Tryz.prog 76 [I .i32 r] (I .i32 (z8m r)) := by
 refine z2e fun H => ?_
 refine z1c Tryz.func76 (by kernel_rfl) rfl (by simp) ?_
 dsimp only [Tryz.f76]
 rw [z8m]
 by_cases hc : zrk r
 · rw [if_pos hc]
   rw [zrk] at hc
   repeat' (first | (apply z0e; (first | refine z11 rfl (by decide) ?_ | (apply z13; (refine z00 (z19 (za2 (by omega) (by omega))) rfl rfl (by decide) ?_)))) | (apply z0b; (first | refine z10 ?_ | apply z0d | refine z2f rfl rfl (by decide) ?_ | refine z16 rfl rfl (fun _ => ?_) (fun _ => ?_))) | (apply z0c; (first | apply z0f | apply z01 | refine z0h rfl ?_ | apply z09 | apply z03 | apply z08 | refine z1i rfl (fun _ => ?_) (fun _ => ?_) | refine z2i rfl (fun _ => ?_) (fun _ => ?_))))
   all_goals try (exfalso; omega)
   all_goals exact z0g Tryz.func76 _ (z0j rfl rfl) ⟨rfl, rfl⟩
 · rw [if_neg hc]
   rw [zrk] at hc
   by_cases hd : 1024 ≤ r ∧ r ≤ 1039
   · rw [if_pos hd]
     repeat' (first | (apply z0e; (first | refine z11 rfl (by decide) ?_ | (apply z13; (refine z00 (z19 (za2 (by omega) (by omega))) rfl rfl (by decide) ?_)))) | (apply z0b; (first | refine z10 ?_ | apply z0d | refine z2f rfl rfl (by decide) ?_ | refine z16 rfl rfl (fun _ => ?_) (fun _ => ?_))) | (apply z0c; (first | apply z0f | apply z01 | refine z0h rfl ?_ | apply z09 | apply z03 | apply z08 | refine z1i rfl (fun _ => ?_) (fun _ => ?_) | refine z2i rfl (fun _ => ?_) (fun _ => ?_))))
     all_goals try (exfalso; omega)
     all_goals exact z0g Tryz.func76 _ (z0j rfl rfl) ⟨rfl, rfl⟩
   · rw [if_neg hd]
     repeat' (first | (apply z0e; (first | refine z11 rfl (by decide) ?_ | (apply z13; (refine z00 (z19 (za2 (by omega) (by omega))) rfl rfl (by decide) ?_)))) | (apply z0b; (first | refine z10 ?_ | apply z0d | refine z2f rfl rfl (by decide) ?_ | refine z16 rfl rfl (fun _ => ?_) (fun _ => ?_))) | (apply z0c; (first | apply z0f | apply z01 | refine z0h rfl ?_ | apply z09 | apply z03 | apply z08 | refine z1i rfl (fun _ => ?_) (fun _ => ?_) | refine z2i rfl (fun _ => ?_) (fun _ => ?_))))
     all_goals try (exfalso; omega)
     all_goals exact z0g Tryz.func76 _ (z0j rfl rfl) ⟨rfl, rfl⟩
end Go.Proofs.YtjmbjgecfpggdaaGreatDoor
namespace Go.Proofs.YtjmbjgecfpggdaaGreatDoor
open Go.Ab Go.Rx
set_option maxHeartbeats 20000000
set_option maxRecDepth 100000
attribute [local irreducible] Run Ops Op1 z2q Val Tr z1p z2j NF Rel z5b z5c
def inB (l : List Rg) (c : Int) : Bool := l.any fun r => decide (r.1 ≤ c) && decide (c ≤ r.2)
theorem zjc (l : List Rg) (hl : l.length ≤ 9223372036854775807) (c : Int) : z1p Tryz.prog 58 [.d (rgs l), I .i32 c] (B (inB l c)) := by
 refine z2e fun H => ?_
 refine z1c Tryz.func58 (by kernel_rfl) rfl (by simp) ?_
 dsimp only [Tryz.f58]
 repeat' (first | (apply z0e; (first | refine z11 rfl (by decide) ?_ | (apply z1e; (refine z00 (z1q rfl) rfl rfl (by decide) ?_)))) | (apply z0b; (first | refine z10 ?_ | apply z0d)) | (apply z0c; (first | apply z0f | apply z01 | apply z03)))
 all_goals try (exfalso; omega)
 refine z1x ?_
 refine z0s (z2u (fun q : Nat => ⟨24, [(1, I .i32 c), (7, .d (rgs l)), (8, I .i64 l.length), (9, I .i64 (q : Nat))], [], H⟩) (fun q => q ≤ l.length ∧ inB (l.drop q) c = inB l c) (fun q => l.length - q) ?_ 0 ⟨Nat.zero_le _, rfl⟩) rfl rfl
 intro q ⟨i1, i2⟩ ih
 by_cases hlt : q < l.length
 · obtain ⟨r, hr⟩ : ∃ r, l[q]? = some r := ⟨_, List.getElem?_eq_getElem hlt⟩
   rw [drop_cons hr, inB, List.any_cons, ← inB] at i2
   by_cases hc : r.1 ≤ c ∧ c ≤ r.2
   · rw [decide_eq_true hc.1, decide_eq_true hc.2, Bool.true_and, Bool.true_or] at i2
     rw [← i2]
     repeat' (first | (apply z0e; (first | refine z11 rfl (by decide) ?_ | (apply z0a; (first | refine z00 (z0u rfl rfl rfl rfl) rfl rfl (by decide) ?_ | refine z00 (z14 rfl rfl) rfl rfl (by decide) ?_)) | (apply z07; (refine z00 (z04 rfl rfl) rfl rfl (by decide) ?_)) | (apply z1f; (refine z00 (z1b (ys := l.map rgc) rfl (by omega) (idx hr) rfl) rfl rfl (by decide) ?_)) | (apply z13; (refine z00 (z19 (z1o (by omega) (by omega))) rfl rfl (by decide) ?_)) | (apply z05; (refine z06 rfl rfl rfl rfl rfl rfl ?_)) | (apply z0n; (refine z0k (z0l rfl rfl (by decide)) ?_)))) | (apply z0b; (first | refine z10 ?_ | apply z0d | refine z2f rfl rfl (by decide) ?_ | refine z16 rfl rfl (fun _ => ?_) (fun _ => ?_))) | (apply z0c; (first | apply z0f | apply z01 | refine z0h rfl ?_ | apply z09 | apply z03 | apply z08 | refine z1i rfl (fun _ => ?_) (fun _ => ?_) | refine z0p rfl ?_)))
     all_goals try (exfalso; omega)
     all_goals exact z0g Tryz.func58 _ (z0j rfl rfl) ⟨rfl, rfl⟩
   · have hf : (decide (r.1 ≤ c) && decide (c ≤ r.2)) = false := by
      rw [← Bool.decide_and]; exact decide_eq_false hc
     rw [hf, Bool.false_or] at i2
     repeat' (first | (apply z0e; (first | refine z11 rfl (by decide) ?_ | (apply z0a; (first | refine z00 (z0u rfl rfl rfl rfl) rfl rfl (by decide) ?_ | refine z00 (z14 rfl rfl) rfl rfl (by decide) ?_)) | (apply z07; (refine z00 (z04 rfl rfl) rfl rfl (by decide) ?_)) | (apply z1f; (refine z00 (z1b (ys := l.map rgc) rfl (by omega) (idx hr) rfl) rfl rfl (by decide) ?_)) | (apply z13; (refine z00 (z19 (z1o (by omega) (by omega))) rfl rfl (by decide) ?_)) | (apply z05; (refine z06 rfl rfl rfl rfl rfl rfl ?_)) | (apply z0n; (refine z0k (z0l rfl rfl (by decide)) ?_)))) | (apply z0b; (first | refine z10 ?_ | apply z0d | refine z2f rfl rfl (by decide) ?_ | refine z16 rfl rfl (fun _ => ?_) (fun _ => ?_))) | (apply z0c; (first | apply z0f | apply z01 | refine z0h rfl ?_ | apply z09 | apply z03 | apply z08 | refine z1i rfl (fun _ => ?_) (fun _ => ?_) | refine z0p rfl ?_)))
     all_goals try (exfalso; omega)
     all_goals exact z0s (ih (q + 1) ⟨by omega, i2⟩ (by omega)) rfl rfl
 · obtain rfl : q = l.length := by omega
   rw [List.drop_length, inB, List.any_nil] at i2
   rw [← i2]
   repeat' (first | (apply z0e; (refine z11 rfl (by decide) ?_)) | (apply z0b; (first | refine z10 ?_ | apply z0d)) | (apply z0c; (first | apply z0f | apply z01 | apply z09 | apply z03 | refine z1i rfl (fun _ => ?_) (fun _ => ?_) | refine z0p rfl ?_)))
   all_goals try (exfalso; omega)
   all_goals exact z0g Tryz.func58 _ (z0j rfl rfl) ⟨rfl, rfl⟩
end Go.Proofs.YtjmbjgecfpggdaaGreatDoor
namespace Go.Proofs.YtjmbjgecfpggdaaGreatDoor
open Go.Ab Go.Rx
set_option maxHeartbeats 20000000
set_option maxRecDepth 100000
attribute [local irreducible] Run Ops Op1 z2q Val Tr z1p z2j NF Rel z5b z5c z84
noncomputable def zqu : Code := match Tryz.f59.body with | some (.seq _ (.seq _ (.seq (.seq _ (.block _ (.rangeFunc _ _ a _))) _))) => a | _ => .skip
noncomputable def zky : Code := match Tryz.f59.body with | some (.seq _ (.seq _ (.seq (.seq _ (.block _ (.rangeFunc _ _ _ b))) _))) => b | _ => .skip
def zpl : List (Nat × PV) := [(1, .ptr (0, 1) 0), (3, .ptr (0, 3) 0)]
noncomputable def zqz (state : LoopState) : Blk := .lp 36 59 #[11] zqu zky zpl state none
abbrev b8r (q : List Int) : Blk := .row 5 1 (q.map by8)
abbrev pcU (s : ByteArray) (u : Un) : List Int := btI (pcS s u.1 u.2.1 u.2.2)
noncomputable def zv9 (s : ByteArray) (q : List Int) : Hp := [(999, zqz .ready), (3, .box [.ref (0, 5000)]), (5000, b8r q), (1, .box [S s]), (901, .box [S s])]
noncomputable def foW (s : ByteArray) (H : Hf) (q : List Int) : Hf := push (zv9 s q) H
theorem z8e {m : Nm} (k : Nat) : ∀ {hp : Hp} {t : Nat} {b : Blk}, z3s m (hp.filter fun q => !(q.1 == k)) = true → Ab.look hp t = some b → t ≠ k → b.says m = false
 | [], t, b, _, h, _ => by simp [Ab.look] at h
 | (x, q) :: r, t, b, hq, h, hn => by
  simp only [Ab.look] at h
  by_cases hx : x = k
  · subst hx
    simp only [List.filter, beq_self_eq_true, Bool.not_true] at hq
    rw [if_neg (Ne.symm hn)] at h
    exact z8e x hq h hn
  · have : (!(x == k)) = true := by simpa using hx
    simp only [List.filter, this, z3s, Bool.and_eq_true, Bool.not_eq_true'] at hq
    split at h
    · simp at h; subst h; exact hq.1
    · exact z8e k hq.2 h hn
theorem zmw (s : ByteArray) (hs : s.size ≤ 1000000) (H : Hf) (hp : Hp) (q : List Int) (u : Un) (hqt : z3s (1, 5000) hp = true) (hok : (q.length : Int) ≤ 4 * u.2.1) (hu : zu0 s u) :
  zee Tryz.prog (1, 999) [.d (.agg (unc u))] (push hp (foW s H q)) (fun r H' => r = .v (B true) ∧ H' = push hp (foW s H (q ++ pcU s u))) (fun y => y = (1, 5000)) := by
 have hlow := zpk u.1 hu.r0 hu.r1
 obtain ⟨z0, z1, z2, z3, z4⟩ := hu
 refine zt5 (n' := 36) (f' := 59) (t0 := 11) (asg := zqu) (body := zky) (st := zpl) (pend := none) (R2 := fun r H' => r = .v (B true) ∧ H' = upd (upd (push hp (foW s H q)) (1, 999) (zqz .busy)) (1, 5000) (b8r (q ++ pcU s u))) rfl (by decide) (by simp) ?_ ?_ ?_ ?_
 · rw [show z2z (1 + 1) zpl = [(1, .ptr (2, 1) 0), (3, .ptr (2, 3) 0)] by simp [zpl, z2z, PV.lift]]
   dsimp only [zqu, zky, Tryz.f59]
   repeat' (first | (apply z0e; (first | (apply z05; (refine z06 rfl rfl rfl rfl rfl rfl ?_)) | (apply z0n; (refine z0k (z0l rfl rfl (by decide)) ?_)))) | (apply z0b; (first | refine z10 ?_ | apply z0d)) | (apply z0c; (apply z01)))
   refine zbj rfl rfl ?_
   change Run _ _ _ _ ⟨_, _, _, upd (push hp (foW s H q)) (1, 999) (zqz .busy)⟩
   have hb1 : upd (push hp (foW s H q)) (1, 999) (zqz .busy) 1 1 = some (.box [S s]) := rfl
   have hb3 : upd (push hp (foW s H q)) (1, 999) (zqz .busy) 1 3 = some (.box [.ref (0, 5000)]) := rfl
   have hb5 : upd (push hp (foW s H q)) (1, 999) (zqz .busy) 1 5000 = some (b8r q) := rfl
   obtain ⟨U, hU⟩ : ∃ U, upd (push hp (foW s H q)) (1, 999) (zqz .busy) = U := ⟨_, rfl⟩
   rw [hU] at hb1 hb3 hb5 ⊢
   refine z0s (tm' := [(4, .ptr (0, 4) 0), (1, .ptr (2, 1) 0), (3, .ptr (2, 3) 0)]) (hp' := [(4, .box ((unc u).map .d))]) ?_ rfl rfl
   refine z6y 700 1 3 hb3 rfl rfl ?_
   refine z4d 701 1 5000 (z18 hb5 (by simp)) rfl rfl ?_
   refine z4n 100701 rfl ?_
   refine z0s (tm' := [(4, .ptr (0, 4) 0), (1, .ptr (2, 1) 0), (3, .ptr (0, 700) 0), (100700, .al (0, 700) (2, 3))]) (hp' := [(4, .box ((unc u).map .d)), (700, .box [.ref (0, 701)]), (701, b8r q)]) ?_ rfl rfl
   obtain ⟨V, hV⟩ : ∃ V, upd (upd U (1, 3) .gone) (1, 5000) .gone = V := ⟨_, rfl⟩
   have v1 : V 1 1 = some (.box [S s]) := by rw [← hV]; exact z18 (z18 hb1 (by simp)) (by simp)
   have v3 : V 1 3 = some .gone := by rw [← hV]; exact z18 (z43 _ (1, 3) _) (by simp)
   have v5 : V 1 5000 = some .gone := by rw [← hV]; exact z43 _ (1, 5000) _
   rw [hV]
   have hqV : z8c V (1, 5000) := by
    intro x y b hx hb
    rw [← hV, ← hU] at hb
    simp only [upd] at hb
    split at hb
    · simp at hb; subst hb; rfl
    rename_i n1
    split at hb
    · simp at hb; subst hb; rfl
    rename_i n2
    split at hb
    · simp at hb; subst hb; rename_i n3; obtain ⟨rfl, rfl⟩ := n3; rfl
    · match x, hx with
      | 0, _ => exact z4p hqt hb
      | 1, _ =>
       have hb' : Ab.look (zv9 s q) y = some b := hb
       refine z8e 3 (m := (0, 5000)) ?_ hb' (by omega)
       rfl
   have hps := zi6 s u.1 u.2.1 u.2.2 z2 z3 z4
   have hbl := zef (pcS s u.1 u.2.1 u.2.2)
   by_cases hl : z8m u.1 = u.1
   · have hpc : pcS s u.1 u.2.1 u.2.2 = s.extract u.2.1.toNat (u.2.1 + u.2.2).toNat := by rw [pcS, if_pos hl]
     rw [pcU, hpc]
     rw [hpc] at hps hbl
     repeat' (first | (apply z0e; (first | refine z11 rfl (by decide) ?_ | (apply z0a; (refine z00 (z0u rfl rfl rfl rfl) rfl rfl (by decide) ?_)) | (apply z07; (refine z00 (z04 rfl rfl) rfl rfl (by decide) ?_)) | (apply z1e; ((refine zhe rfl rfl rfl rfl rfl rfl (by kernel_rfl) rfl (by decide) (by omega) ?_) /- z2d -/)) | (apply z0o; (refine z2v hlow rfl (by decide) ?_)) | (apply z05; (refine z06 rfl rfl rfl rfl rfl rfl ?_)))) | (apply z0b; (first | refine z10 ?_ | apply z0d)) | (apply z0c; (first | apply z0f | apply z01 | apply z03 | apply z56 | apply z08 | refine z2i rfl (fun _ => ?_) (fun _ => ?_))) | (apply z57; (first | (apply z1r; (first | refine z1d (z0u (b := .box [S s]) rfl rfl rfl rfl) (by first | exact rfl | exact ⟨_, rfl, rfl, rfl⟩) rfl (bkN v1) (by decide) ?_ | refine z1d (z0u rfl rfl rfl rfl) (by first | exact rfl | exact ⟨_, rfl, rfl, rfl⟩) rfl rfl (by decide) ?_)) | (apply z1l; (refine z1d (z04 rfl rfl) (by first | exact rfl | exact ⟨_, rfl, rfl, rfl⟩) rfl rfl (by decide) ?_)) | (apply z5g; (refine z1d (z19 (z1o (by omega) (by omega))) (by first | exact rfl | exact ⟨_, rfl, rfl, rfl⟩) rfl rfl (by decide) ?_)) | (apply zb2; (refine z1d (zmo rfl (by omega) (by omega) (by omega)) (by first | exact rfl | exact ⟨_, rfl, rfl, rfl⟩) rfl rfl (by decide) ?_)) | (apply z4u; ((refine zol mix (by kernel_rfl) ?_) /- zor -/)))))
     all_goals try (exfalso; omega)
     refine z0s (tm' := [(100700, .al (0, 700) (2, 3))]) (hp' := [(700, .box [.ref (0, 33)]), (33, b8r (q ++ btI _))]) ?_ rfl rfl
     refine zlg 33 1 5000 rfl v5 rfl rfl hqV ?_
     refine z52 700 1 3 (raw := .box [.ref (0, 5000)]) rfl rfl (z18 v3 (by simp)) rfl rfl ?_
     refine zdz rfl ⟨rfl, ?_⟩
     rw [← hV, z9t, zb8 (by simp), z9t, zhm (m := (1, 3)) hb3]
   · have hpc : pcS s u.1 u.2.1 u.2.2 = Utf8.encode (z8m u.1) := by rw [pcS, if_neg hl]
     rw [pcU, hpc]
     rw [hpc] at hps hbl
     repeat' (first | (apply z0e; (first | refine z11 rfl (by decide) ?_ | (apply z0a; (refine z00 (z0u rfl rfl rfl rfl) rfl rfl (by decide) ?_)) | (apply z07; (refine z00 (z04 rfl rfl) rfl rfl (by decide) ?_)) | (apply z1e; ((refine zhe rfl rfl rfl rfl rfl rfl (by kernel_rfl) rfl (by decide) (by omega) ?_) /- z2d -/)) | (apply z0o; (refine z2v hlow rfl (by decide) ?_)) | (apply z05; (refine z06 rfl rfl rfl rfl rfl rfl ?_)) | (apply z63; (refine z00 (z92 rfl rfl) rfl rfl (by decide) ?_)))) | (apply z0b; (first | refine z10 ?_ | apply z0d)) | (apply z0c; (first | apply z0f | apply z01 | apply z03 | apply z56 | apply z08 | refine z2i rfl (fun _ => ?_) (fun _ => ?_))) | (apply z57; ((apply z1r; (refine z1d (z0u rfl rfl rfl rfl) (by first | exact rfl | exact ⟨_, rfl, rfl, rfl⟩) rfl rfl (by decide) ?_)))))
     all_goals try (exfalso; omega)
     refine z0s (tm' := [(100700, .al (0, 700) (2, 3))]) (hp' := [(700, .box [.ref (0, 22)]), (22, b8r (q ++ btI _))]) ?_ rfl rfl
     refine zlg 22 1 5000 rfl v5 rfl rfl hqV ?_
     refine z52 700 1 3 (raw := .box [.ref (0, 5000)]) rfl rfl (z18 v3 (by simp)) rfl rfl ?_
     refine zdz rfl ⟨rfl, ?_⟩
     rw [← hV, z9t, zb8 (by simp), z9t, zhm (m := (1, 3)) hb3]
 · rintro H' ⟨_, rfl⟩
   refine ⟨zpl, none, z18 (z43 _ _ _) (by simp), rfl, ?_⟩
   rw [zb8 (by simp), z9t]
   funext d t
   match d with
   | 0 => rfl
   | d + 2 => rfl
   | 1 =>
    by_cases h1 : t = 5000
    · subst h1; rfl
    by_cases h2 : t = 999
    · subst h2; rfl
    by_cases h3 : t = 3
    · subst h3; rfl
    have k1 := Ne.symm h1
    have k2 := Ne.symm h2
    have k3 := Ne.symm h3
    simp [upd, push, foW, zv9, Ab.look, h1, h2, h3, k1, k2, k3]
 · rintro H' ⟨h, _⟩; cases h
 · rintro id H' ⟨h, _⟩; cases h
def zfs (s : ByteArray) : List Int → List Un → List Int
 | q, [] => q
 | q, u :: l => zfs s (q ++ pcU s u) l
theorem zp4 (s : ByteArray) : ∀ (l : List Un) (q : List Int), zgj (fun (_ : List Int) _ => true) (fun q u => q ++ pcU s u) q l = zfs s q l
 | [], q => rfl
 | u :: l, q => by rw [zgj, if_pos rfl, zp4 s l]; rfl
theorem zpt (s : ByteArray) : btI s = (btN s).map fun x : Nat => (x : Int) := by rw [btI, btN, List.map_map]; rfl
theorem zs9 (s : ByteArray) : ∀ (f i : Nat) (q : List Int), s.size - i ≤ f → zfs s q (unF i (rst s i)) = q ++ (fd ((btN s).drop i)).map fun x : Nat => (x : Int)
 | 0, i, q, h => by
  rw [z34 (by omega), List.drop_eq_nil_of_le (by rw [z5s]; omega)]
  simp [unF, zfs, fd, fdL]
 | f + 1, i, q, h => by
  by_cases hi : i < s.size
  · have hw := z7e s i hi
    have hne : (btN s).drop i ≠ [] := fun e => by
     have := congrArg List.length e
     rw [List.length_drop, z5s] at this; simp at this; omega
    rw [z4b hi, unF, zfs, zs9 s f _ _ (by simp only; omega), zge hne, List.map_append, ← zri s i hi, ← zbs s i hi, List.drop_drop, List.append_assoc]
    congr 1
    congr 1
    rw [pcU, zpt]
  · rw [z34 (s := s) (i := i) (by omega), List.drop_eq_nil_of_le (by rw [z5s]; omega)]
    simp [unF, zfs, fd, fdL]
theorem zsx (s : ByteArray) : strOfNums (zfs s [] (unF 0 (rst s 0))) = za3 s := by
 rw [zs9 s s.size 0 [] (by omega), List.nil_append, List.drop_zero, za3, zs5, strOfNums, List.map_map]
 rfl
theorem zoo (s : ByteArray) (hs : s.size ≤ 1000000) : z1p Tryz.prog 59 [S s] (S (za3 s)) := by
 refine z2e fun H => ?_
 refine z1c Tryz.func59 (by kernel_rfl) rfl (by simp) ?_
 dsimp only [Tryz.f59]
 refine zeb 901 ?_
 have h37 : ∀ (hp : Hp), Ab.look hp 901 = some Blk.gone → z3s (0, 901) hp = true → z9b Tryz.prog 31 [S s] (push hp H) ⟨fun r H' => r = .v (.fn (.func 50) [] [.ptr (0, 901) 0]) ∧ H' = push ((901, .box [S s]) :: hp) H, fun x => x = (0, 901) ∨ x = (0, 902), none⟩ := by
  intro hp h1 q1
  have qq : ∀ x, z3s (0, x) hp = true → z8c (push hp H) (0, x) := fun x q e t b he hb => by
   obtain rfl : e = 0 := by simp at he; omega
   exact z4p q hb
  have := zgl s (push hp H) h1 (qq 901 q1)
  rw [zbi] at this
  exact this
 repeat' (first | (apply z0e; (first | refine zgb (h37 _ rfl rfl) rfl rfl rfl (by decide) ?_ | refine z11 rfl (by decide) ?_ | (apply z0a; (refine z00 (z0u rfl rfl rfl rfl) rfl rfl (by decide) ?_)) | (apply z1e; (refine z00 (z3v rfl) rfl rfl (by decide) ?_)) | (apply z05; (refine z06 rfl rfl rfl rfl rfl rfl ?_)) | (apply z0n; (refine z0k (z0l rfl rfl (by decide)) ?_)) | (apply z3b; (refine z0k (z6a rfl rfl rfl rfl rfl (by decide)) ?_)) | refine zrn rfl rfl (by omega) (by omega) (by omega) (by decide) rfl rfl (by decide) rfl ?_)) | (apply z0b; (first | refine z10 ?_ | apply z0d)) | (apply z0c; (first | apply z0f | apply z01 | apply z03)))
 all_goals try (exfalso; omega)
 refine z38 8 5000 rfl rfl ?_
 refine z0s (tm' := [(1, .ptr (0, 1) 0), (3, .ptr (0, 3) 0), (10, .fn (.func 50) [] [.ptr (0, 901) 0])]) (hp' := [(3, .box [.ref (0, 5000)]), (5000, b8r []), (1, .box [S s]), (901, .box [S s])]) ?_ rfl rfl
 have hsp := ze4 s hs (fun i q => (q.length : Int) ≤ 4 * i) (fun _ _ => true) (fun q u => q ++ pcU s u) (foW s H) (fun x => rfl) (fun x u hu h1 _ => by
  have h2 := zi6 s u.1 u.2.1 u.2.2 hu.a0 hu.n1 hu.e
  have h3 := zef (pcS s u.1 u.2.1 u.2.2)
  rw [List.length_append, pcU]; omega) (fun hp x u hq h1 h2 => zmw s hs H hp x u hq h1 h2) [] (by simp)
 refine z8r 999 5000 zpl rfl rfl rfl rfl rfl hsp (fun m h => h) ?_
 rintro r H2 ⟨_, rfl⟩
 rw [zp4]
 have hstr := zsx s
 generalize zfs s [] (unF 0 (rst s 0)) = Q at *
 refine ⟨.ready, none, zpl, _, H, rfl, by simp, ?_⟩
 refine z0s (tm' := [(1, .ptr (0, 1) 0), (3, .ptr (0, 3) 0)]) (hp' := [(3, .box [.ref (0, 5000)]), (5000, b8r Q)]) ?_ rfl rfl
 refine z1t 5000 rfl ?_
 repeat' (first | (apply z0e; (first | refine z11 rfl (by decide) ?_ | (apply z0a; (refine z00 (z0u rfl rfl rfl rfl) rfl rfl (by decide) ?_)) | refine z00 (zqq rfl rfl rfl) rfl rfl (by decide) ?_)) | (apply z0b; (first | refine z10 ?_ | apply z0d)) | (apply z0c; (first | apply z0f | apply z01 | apply z08)))
 all_goals try (exfalso; omega)
 all_goals exact z0g Tryz.func59 _ (z0j rfl rfl) ⟨congrArg (fun b => RV.v (S b)) hstr, rfl⟩
end Go.Proofs.YtjmbjgecfpggdaaGreatDoor
