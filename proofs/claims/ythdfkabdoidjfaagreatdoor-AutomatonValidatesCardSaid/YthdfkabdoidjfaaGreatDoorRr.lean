/- A part of the proof: G16, G17, G19, G21. -/
import Derived.Test.YthdfkabdoidjfaaGreatDoorRt
import Derived.Test.YthdfkabdoidjfaaGreatDoorRc
import Derived.Test.YthdfkabdoidjfaaGreatDoorRx
set_option linter.all false
set_option linter.unusedVariables false
set_option linter.unusedSimpArgs false
namespace Go.Proofs.YthdfkabdoidjfaaGreatDoor
open Go.Ab Go.Rx
set_option maxHeartbeats 20000000
set_option maxRecDepth 100000
attribute [local irreducible] Run Ops Op1 z2f Val Tr z1f z2d NF Rel z47 z48
/-- a unit: the code point, its place, its size -/
abbrev Un := Int × Int × Int
abbrev unc (u : Un) : List D := [z5u u.1, z2x u.2.1, z2x u.2.2]
def unF : Nat → List U → List Un
 | _, [] => []
 | i, u :: l => (u.r, (i : Int), (u.n : Int)) :: unF (i + u.n) l
/-- what becomes of a taker's state -/
def zje {σ : Type} (go : σ → Un → Bool) (stp : σ → Un → σ) : σ → List Un → σ
 | x, [] => x
 | x, u :: l => if go x u = true then zje go stp (stp x u) l else stp x u
theorem zlu (s : ByteArray) (H : Hf) (h1 : H 0 901 = some .gone) (q1 : zbl H (0, 901)) :
  z9c Tryz.prog 72 [S s] H ⟨fun r H' => r = .v (.fn (.func 111) [] [.ptr (0, 901) 0]) ∧ H' = upd H (0, 901) (.box [S s]), fun x => x = (0, 901) ∨ x = (0, 902), none⟩ := by
 refine z4n Tryz.func72 (by kernel_rfl) rfl (by simp) ?_
 dsimp only [Tryz.f72]
 repeat' (first | (apply z0c; (first | refine z0v rfl (by decide) ?_ | (apply z2b; (refine z07 (z2k rfl rfl rfl rfl rfl (by decide)) ?_)) | refine z8y rfl rfl (by decide) ?_)) | (apply z0b; (first | refine z0u ?_ | apply z0a)) | (apply z0d; (first | apply z0e | apply z01)))
 refine ztf 1 0 901 (q := .box [S s]) rfl rfl h1 (.inl rfl) (by simp [z4e, Blk.says, PV.says, PV.saysL, PV.lift]) q1 ?_
 exact z0r Tryz.func72 _ (zus (.fn (.func 111) [] [.ptr (0, 901) 0]) rfl rfl) ⟨rfl, rfl⟩
structure zwf (s : ByteArray) (u : Un) : Prop where
 r0 : 0 ≤ u.1
 r1 : u.1 ≤ 1114111
 a0 : 0 ≤ u.2.1
 n1 : 1 ≤ u.2.2
 e : u.2.1 + u.2.2 ≤ s.size
theorem ziq {σ : Type} (s : ByteArray) (hs : s.size ≤ 1000000) (ok : Int → σ → Prop) (go : σ → Un → Bool) (stp : σ → Un → σ) (W : σ → Hf) (hW : ∀ x, W x 0 901 = some (.box [S s]))
  (hok : ∀ x u, zwf s u → ok u.2.1 x → go x u = true → ok (u.2.1 + u.2.2) (stp x u))
  (hY : ∀ (hp : Hp) (x : σ) (u : Un), z4e (1, 5000) hp = true → ok u.2.1 x → zwf s u → zfg Tryz.prog (1, 999) [.d (.agg (unc u))] (push hp (W x)) (fun r H' => r = .v (B (go x u)) ∧ H' = push hp (W (stp x u))) (fun y => y = (1, 5000)))
  (x0 : σ) (h0 : ok 0 x0) : z9c Tryz.prog 111 [.yl (0, 999), .ptr (0, 901) 0] (W x0) ⟨fun r H' => r = .v (.tup []) ∧ H' = W (zje go stp x0 (unF 0 (rst s 0))), fun x => x = (0, 5000), none⟩ := by
 refine z4n Tryz.func111 (by kernel_rfl) rfl (by simp) ?_
 dsimp only [Tryz.f111]
 have hw0 := hW x0
 obtain ⟨T, hT⟩ : ∃ T, zje go stp x0 (unF 0 (rst s 0)) = T := ⟨_, rfl⟩
 rw [hT]
 repeat' (first | (apply z0c; (first | (apply z09; (refine z00 (z0g (b := .box [S s]) rfl rfl rfl rfl) rfl (bkN hw0) (by decide) ?_)) | (apply z0f; (refine z08 rfl rfl rfl rfl rfl rfl ?_)) | (apply z0l; (refine z07 (z0k rfl rfl (by decide)) ?_)) | (apply z0z; (refine z10 rfl rfl rfl rfl rfl rfl rfl (by decide) ?_)) | refine zfv rfl rfl rfl (by decide) ?_)) | (apply z0b; (first | refine z0u ?_ | apply z0a)) | (apply z0d; (first | apply z0e | apply z01 | apply z02)))
 all_goals try (exfalso; omega)
 refine z1q ?_
 refine z0o (z2r (fun q : Nat × Int × Int × σ => ⟨42, [(0, .yl (1, 999)), (1, .ptr (1, 901) 0), (3, .ptr (0, 3) 0), (8, .ptr (0, 8) 0)], [(3, .box [I .i32 q.2.1, I .i64 q.2.2.1, I .i64 0]), (8, .siter s q.1)], W q.2.2.2⟩)
  (fun q => q.1 ≤ s.size ∧ (0 ≤ q.2.2.1 → ok q.2.2.1 q.2.2.2) ∧ ((q.1 = 0 ∧ q.2.2.1 = -1 ∧ q.2.2.2 = x0) ∨ (0 ≤ q.2.2.1 ∧ q.2.2.1 < q.1 ∧ 0 ≤ q.2.1 ∧ q.2.1 ≤ 1114111 ∧ zje go stp q.2.2.2 ((q.2.1, q.2.2.1, (q.1 : Int) - q.2.2.1) :: unF q.1 (rst s q.1)) = T))) (fun q => s.size - q.1) ?_ (0, 0, -1, x0) ⟨Nat.zero_le _, fun h => by simp at h, .inl ⟨rfl, rfl, rfl⟩⟩) rfl rfl
 rintro ⟨q, r, a, x⟩ ⟨i1, i2, i3⟩ ih
 simp only at i1 i2 i3 ih ⊢
 have hwx := hW x
 by_cases hlt : q < s.size
 · have hd := ziz hlt
   have hw := zjp s q hlt
   have hdh := zql s q
   rcases i3 with ⟨rfl, rfl, rfl⟩ | ⟨a0, a1, r0, r1, hrun⟩
   · have ih' := ih (0 + (Utf8.decode s 0).2, ((Utf8.decode s 0).1 : Nat), 0, x) ⟨by simp only; omega, fun _ => h0, .inr ⟨by simp, by simp only; omega, by simp only; omega, by simp only; omega, by
      rw [hd] at hT
      simp only [unF] at hT
      simp only [Int.sub_zero]
      rw [← hT]; simp⟩⟩ (by simp only; omega)
     repeat' (first | (apply z0c; (first | refine z0v rfl (by decide) ?_ | (apply z09; (refine z00 (z0g rfl rfl rfl rfl) rfl rfl (by decide) ?_)) | (apply z0h; (refine z00 (z04 rfl rfl) rfl rfl (by decide) ?_)) | (apply z18; (refine z00 (z29 (z1n (by omega) (by omega))) rfl rfl (by decide) ?_)) | (apply z0f; (refine z08 rfl rfl rfl rfl rfl rfl ?_)) | (apply z0z; (refine z10 rfl rfl rfl rfl rfl rfl rfl (by decide) ?_)) | refine z4m hlt rfl rfl (by decide) ?_)) | (apply z0b; (first | refine z0u ?_ | apply z0a | refine z3v rfl rfl (by decide) ?_)) | (apply z0d; (first | apply z0e | apply z01 | refine z1d rfl ?_ | refine z0m rfl ?_ | apply z06 | apply z02 | apply z03)))
     all_goals try (exfalso; omega)
     all_goals exact z0o ih' rfl rfl
   · have hu : zwf s (r, a, (q : Int) - a) := ⟨r0, r1, a0, by simp only; omega, by simp only; omega⟩
     rw [zje] at hrun
     cases hg : go x (r, a, (q : Int) - a) with
     | true =>
      rw [if_pos hg] at hrun
      have hy : ∀ hp : Hp, z4e (1, 5000) hp = true → zfg Tryz.prog (1, 999) [.d (.agg (unc (r, a, (q : Int) - a)))] (push hp (W x)) (fun r' H' => r' = .v (B true) ∧ H' = push hp (W (stp x (r, a, (q : Int) - a)))) (fun y => y = (1, 5000)) := fun hp hqq => by
       have := hY hp x _ hqq (i2 a0) hu
       rwa [hg] at this
      have ih' := ih (q + (Utf8.decode s q).2, ((Utf8.decode s q).1 : Nat), (q : Nat), stp x (r, a, (q : Int) - a)) ⟨by simp only; omega, fun _ => by have := hok _ _ hu (i2 a0) hg; simp only at this; rwa [show a + ((q : Int) - a) = (q : Nat) by omega] at this, .inr ⟨by simp only; omega, by simp only; omega, by simp only; omega, by simp only; omega, by
       rw [hd] at hrun
       simp only [unF] at hrun
       rw [show ((q + (Utf8.decode s q).2 : Nat) : Int) - (q : Nat) = ((Utf8.decode s q).2 : Nat) by omega]
       exact hrun⟩⟩ (by simp only; omega)
      repeat' (first | (apply z0c; (first | refine ze2 (mv := (0, 5000)) (hy _ (by rfl)) rfl rfl rfl rfl (by decide) ?_ | refine z0v rfl (by decide) ?_ | (apply z09; (first | refine z00 (z0g rfl rfl rfl rfl) rfl rfl (by decide) ?_ | refine z00 (z14 rfl rfl rfl rfl) rfl rfl (by decide) ?_)) | (apply z0h; (refine z00 (z04 rfl rfl) rfl rfl (by decide) ?_)) | (apply z18; (refine z00 (z29 (z1n (by omega) (by omega))) rfl rfl (by decide) ?_)) | (apply z0f; (refine z08 rfl rfl rfl rfl rfl rfl ?_)) | (apply z0z; (refine z10 rfl rfl rfl rfl rfl rfl rfl (by decide) ?_)) | refine z4m hlt rfl rfl (by decide) ?_)) | (apply z0b; (first | refine z0u ?_ | apply z0a | refine z3v rfl rfl (by decide) ?_ | refine z1h rfl rfl (fun _ => ?_) (fun _ => ?_))) | (apply z0d; (first | apply z0e | apply z01 | refine z1d rfl ?_ | refine z0m rfl ?_ | apply z06 | apply z02 | apply z03)))
      all_goals try (exfalso; omega)
      all_goals exact z0o ih' rfl rfl
     | false =>
      rw [if_neg (by rw [hg]; decide)] at hrun
      have hy : ∀ hp : Hp, z4e (1, 5000) hp = true → zfg Tryz.prog (1, 999) [.d (.agg (unc (r, a, (q : Int) - a)))] (push hp (W x)) (fun r' H' => r' = .v (B false) ∧ H' = push hp (W (stp x (r, a, (q : Int) - a)))) (fun y => y = (1, 5000)) := fun hp hqq => by
       have := hY hp x _ hqq (i2 a0) hu
       rwa [hg] at this
      repeat' (first | (apply z0c; (first | refine ze2 (mv := (0, 5000)) (hy _ (by rfl)) rfl rfl rfl rfl (by decide) ?_ | refine z0v rfl (by decide) ?_ | (apply z09; (first | refine z00 (z0g rfl rfl rfl rfl) rfl rfl (by decide) ?_ | refine z00 (z14 rfl rfl rfl rfl) rfl rfl (by decide) ?_)) | (apply z0h; (refine z00 (z04 rfl rfl) rfl rfl (by decide) ?_)) | (apply z18; (refine z00 (z29 (z1n (by omega) (by omega))) rfl rfl (by decide) ?_)) | (apply z0f; (refine z08 rfl rfl rfl rfl rfl rfl ?_)) | (apply z0z; (refine z10 rfl rfl rfl rfl rfl rfl rfl (by decide) ?_)) | refine z4m hlt rfl rfl (by decide) ?_)) | (apply z0b; (first | refine z0u ?_ | apply z0a | refine z3v rfl rfl (by decide) ?_ | refine z1h rfl rfl (fun _ => ?_) (fun _ => ?_))) | (apply z0d; (first | apply z0e | apply z01 | refine z1d rfl ?_ | refine z0m rfl ?_ | apply z06 | apply z02 | apply z03)))
      all_goals try (exfalso; omega)
      all_goals exact z0r Tryz.func111 _ (z5k rfl) ⟨rfl, congrArg W hrun⟩
 · obtain rfl : q = s.size := by omega
   have hd := zfi (s := s) (i := s.size) (Nat.le_refl _)
   rcases i3 with ⟨h1, rfl, rfl⟩ | ⟨a0, a1, r0, r1, hrun⟩
   · rw [← h1, hd] at hT
     simp only [unF, zje] at hT
     repeat' (first | (apply z0c; (first | refine z0v rfl (by decide) ?_ | (apply z09; (first | refine z00 (z0g (b := .box [S s]) rfl rfl rfl rfl) rfl (bkN hwx) (by decide) ?_ | refine z00 (z0g rfl rfl rfl rfl) rfl rfl (by decide) ?_)) | (apply z0h; (refine z00 (z04 rfl rfl) rfl rfl (by decide) ?_)) | (apply z18; (refine z00 (z29 (z1n (by omega) (by omega))) rfl rfl (by decide) ?_)) | (apply z1a; (refine z00 (za8 rfl) rfl rfl (by decide) ?_)) | (apply z0f; (refine z08 rfl rfl rfl rfl rfl rfl ?_)) | refine z6g hlt rfl rfl (by decide) ?_)) | (apply z0b; (first | refine z0u ?_ | apply z0a)) | (apply z0d; (first | apply z0e | apply z01 | refine z0m rfl ?_ | apply z06 | refine z0j rfl ?_)))
     all_goals try (exfalso; omega)
     all_goals exact zjs Tryz.func111 _ (z5k rfl) ⟨rfl, congrArg W hT⟩
   · have hu : zwf s (r, a, (s.size : Int) - a) := ⟨r0, r1, a0, by simp only; omega, by simp only; omega⟩
     rw [hd] at hrun
     simp only [unF, zje, ite_self] at hrun
     repeat' (first | (apply z0c; (first | refine ze2 (mv := (0, 5000)) (hY _ x (r, a, (s.size : Int) - a) (by rfl) (i2 a0) hu) rfl rfl rfl rfl (by decide) ?_ | refine z0v rfl (by decide) ?_ | (apply z09; (first | refine z00 (z0g (b := .box [S s]) rfl rfl rfl rfl) rfl (bkN hwx) (by decide) ?_ | refine z00 (z0g rfl rfl rfl rfl) rfl rfl (by decide) ?_ | refine z00 (z14 rfl rfl rfl rfl) rfl rfl (by decide) ?_)) | (apply z0h; (refine z00 (z04 rfl rfl) rfl rfl (by decide) ?_)) | (apply z18; (refine z00 (z29 (z1n (by omega) (by omega))) rfl rfl (by decide) ?_)) | (apply z1a; (refine z00 (za8 rfl) rfl rfl (by decide) ?_)) | (apply z0f; (refine z08 rfl rfl rfl rfl rfl rfl ?_)) | refine z6g hlt rfl rfl (by decide) ?_)) | (apply z0b; (first | refine z0u ?_ | apply z0a)) | (apply z0d; (first | apply z0e | apply z01 | refine z0m rfl ?_ | apply z06 | refine z1j rfl (fun _ => ?_) (fun _ => ?_) | refine z0j rfl ?_)))
     all_goals try (exfalso; omega)
     all_goals exact zjs Tryz.func111 _ (z5k rfl) ⟨rfl, congrArg W hrun⟩
end Go.Proofs.YthdfkabdoidjfaaGreatDoor
namespace Go.Proofs.YthdfkabdoidjfaaGreatDoor
open Go.Ab Go.Rx
set_option maxHeartbeats 20000000
set_option maxRecDepth 100000
attribute [local irreducible] Run Ops Op1 z2f Val Tr z1f z2d NF Rel z47 z48
theorem zfb {hp : Hp} {up : Hf} (c : Nat) {q : Blk} : upd (push hp up) (0, c) q = push ((c, q) :: hp) up := by
 funext d s
 cases d with
 | zero =>
  simp only [upd, push, Ab.look, true_and]
  by_cases h1 : s = c
  · rw [if_pos h1, if_pos h1.symm]
  · rw [if_neg h1, if_neg (Ne.symm h1)]
 | succ d => simp [upd, push]
def atR (s : ByteArray) (i : Nat) : PV := match (unF 0 (rst s 0))[i]? with
 | some u => .tup [I .i32 u.1, I .i64 u.2.1, I .i64 u.2.2, B true]
 | none => .tup [I .i32 0, I .i64 0, I .i64 0, B false]
noncomputable def zli : Code := match Tryz.f69.body with | some (.seq _ (.seq (.seq _ (.block _ (.rangeFunc _ _ a _))) _)) => a | _ => .skip
noncomputable def zfp : Code := match Tryz.f69.body with | some (.seq _ (.seq (.seq _ (.block _ (.rangeFunc _ _ _ b))) _)) => b | _ => .skip
def zk6 : List (Nat × PV) := [(3, .ptr (0, 3) 0), (4, .ptr (0, 4) 0), (5, .ptr (0, 5) 0), (6, .ptr (0, 6) 0), (7, .ptr (0, 7) 0)]
noncomputable def zir (state : LoopState) (j : Option Code) : Blk := .lp 22 69 #[11] zli zfp zk6 state j
inductive AtS where
 | run (i : Nat)
 | fin (u : Un)
noncomputable def atW (s : ByteArray) (H : Hf) : AtS → Hf
 | .run i => push [(999, zir .ready none), (7, .box [B false]), (6, .box [I .i64 0]), (5, .box [I .i64 0]), (4, .box [I .i32 0]), (3, .box [I .i64 (i : Nat)]), (901, .box [S s])] H
 | .fin u => push [(999, zir .done (some .ret)), (7, .box [B true]), (6, .box [I .i64 u.2.2]), (5, .box [I .i64 u.2.1]), (4, .box [I .i32 u.1]), (3, .box [I .i64 0]), (901, .box [S s])] H
def zwi : AtS → Un → Bool
 | .run 0, _ => false
 | .run (_ + 1), _ => true
 | .fin _, _ => false
def zjz : AtS → Un → AtS
 | .run 0, u => .fin u
 | .run (i + 1), _ => .run i
 | .fin v, _ => .fin v
def zya : AtS → Prop
 | .run i => i ≤ 1000000
 | .fin _ => False
theorem zq8 : ∀ (l : List Un) (i : Nat), zje zwi zjz (.run i) l = match l[i]? with | some u => .fin u | none => .run (i - l.length)
 | [], i => by simp [zje]
 | u :: l, 0 => by rw [zje, if_neg (by simp [zwi])]; rfl
 | u :: l, i + 1 => by
  rw [zje, if_pos (by rfl), show zjz (.run (i + 1)) u = .run i from rfl, zq8 l i, List.getElem?_cons_succ, List.length_cons, show i + 1 - (l.length + 1) = i - l.length by omega]
theorem zop (s : ByteArray) (H : Hf) (hp : Hp) (x : AtS) (u : Un) (hx : zya x) : zfg Tryz.prog (1, 999) [.d (.agg (unc u))] (push hp (atW s H x)) (fun r H' => r = .v (B (zwi x u)) ∧ H' = push hp (atW s H (zjz x u))) (fun y => y = (1, 5000)) := by
 match x, hx with
 | .run 0, _ =>
  refine zwe (n' := 22) (f' := 69) (t0 := 11) (asg := zli) (body := zfp) (st := zk6) (pend := none) (R2 := fun r H' => r = .v (B false) ∧ H' = upd (upd (upd (upd (upd (push hp (atW s H (.run 0))) (1, 999) (zir .busy none)) (1, 4) (.box [I .i32 u.1])) (1, 5) (.box [I .i64 u.2.1])) (1, 6) (.box [I .i64 u.2.2])) (1, 7) (.box [B true])) rfl (by decide) (by simp) ?_ ?_ ?_ ?_
  · rw [show z2y (1 + 1) zk6 = [(3, .ptr (2, 3) 0), (4, .ptr (2, 4) 0), (5, .ptr (2, 5) 0), (6, .ptr (2, 6) 0), (7, .ptr (2, 7) 0)] by simp [zk6, z2y, PV.lift]]
    dsimp only [zli, zfp, Tryz.f69]
    have hb3 : upd (push hp (atW s H (.run 0))) (1, 999) (zir .busy none) 1 3 = some (.box [I .i64 0]) := rfl
    repeat' (first | (apply z0c; (first | (apply z0f; (refine z08 rfl rfl rfl rfl rfl rfl ?_)) | (apply z0l; (refine z07 (z0k rfl rfl (by decide)) ?_)))) | (apply z0b; (first | refine z0u ?_ | apply z0a)) | (apply z0d; (apply z01)))
    refine zd2 rfl rfl ?_
    change Run _ _ _ _ ⟨_, _, _, upd (push hp (atW s H (.run 0))) (1, 999) (zir .busy none)⟩
    have hb4 : upd (push hp (atW s H (.run 0))) (1, 999) (zir .busy none) 1 4 = some (.box [I .i32 0]) := rfl
    have hb5 : upd (push hp (atW s H (.run 0))) (1, 999) (zir .busy none) 1 5 = some (.box [I .i64 0]) := rfl
    have hb6 : upd (push hp (atW s H (.run 0))) (1, 999) (zir .busy none) 1 6 = some (.box [I .i64 0]) := rfl
    have hb7 : upd (push hp (atW s H (.run 0))) (1, 999) (zir .busy none) 1 7 = some (.box [B false]) := rfl
    generalize upd (push hp (atW s H (.run 0))) (1, 999) (zir .busy none) = V at *
    repeat' (first | (apply z0c; (first | refine z0v rfl (by decide) ?_ | (apply z09; (refine z00 (z0g (b := .box [I .i64 0]) rfl rfl rfl rfl) rfl (bkN hb3) (by decide) ?_)))) | (apply z0b; (first | refine z0u ?_ | apply z0a)) | (apply z0d; (first | apply z0e | apply z01 | refine z1d rfl ?_ | apply z02 | apply z3c)) | (apply z3b; (first | (apply z1k; refine z2a mix (by kernel_rfl) ?_) | (apply z0x; (refine z05 (z0g rfl rfl rfl rfl) (by first | exact rfl | exact ⟨_, rfl, rfl, rfl⟩) rfl rfl (by decide) ?_)) | (apply z0w; (refine z05 (z04 rfl rfl) (by first | exact rfl | exact ⟨_, rfl, rfl, rfl⟩) rfl rfl (by decide) ?_)) | (apply z3i; (first | refine zat (raw' := .box [B true]) (by first | exact rfl | exact ⟨_, rfl, rfl, rfl⟩) rfl (z0s (z0s (z0s hb7 (by simp)) (by simp)) (by simp)) rfl rfl rfl rfl rfl rfl ?_ | refine zat (raw' := .box [I .i64 u.2.2]) (by first | exact rfl | exact ⟨_, rfl, rfl, rfl⟩) rfl (z0s (z0s hb6 (by simp)) (by simp)) rfl rfl rfl rfl rfl rfl ?_ | refine zat (raw' := .box [I .i64 u.2.1]) (by first | exact rfl | exact ⟨_, rfl, rfl, rfl⟩) rfl (z0s hb5 (by simp)) rfl rfl rfl rfl rfl rfl ?_ | refine zat (raw' := .box [I .i32 u.1]) (by first | exact rfl | exact ⟨_, rfl, rfl, rfl⟩) rfl hb4 rfl rfl rfl rfl rfl rfl ?_)))))
    all_goals try (exfalso; omega)
    all_goals exact zbw rfl ⟨rfl, rfl⟩
  · rintro H' ⟨h, _⟩; cases h
  · rintro H' ⟨_, rfl⟩
    refine ⟨zk6, none, z0s (z0s (z0s (z0s (z4f _ _ _) (by simp)) (by simp)) (by simp)) (by simp), rfl, ?_⟩
    funext d t
    match d with
    | 0 => rfl
    | d + 2 => rfl
    | 1 =>
     by_cases h1 : t = 999
     · subst h1; rfl
     by_cases h2 : t = 7
     · subst h2; rfl
     by_cases h3 : t = 6
     · subst h3; rfl
     by_cases h4 : t = 5
     · subst h4; rfl
     by_cases h5 : t = 4
     · subst h5; rfl
     have k1 := Ne.symm h1
     have k2 := Ne.symm h2
     have k3 := Ne.symm h3
     have k4 := Ne.symm h4
     have k5 := Ne.symm h5
     simp [upd, push, atW, zjz, Ab.look, h1, h2, h3, h4, h5, k1, k2, k3, k4, k5]
  · rintro id H' ⟨h, _⟩; cases h
 | .run (i + 1), h =>
  have hi : i + 1 ≤ 1000000 := h
  refine zwe (n' := 22) (f' := 69) (t0 := 11) (asg := zli) (body := zfp) (st := zk6) (pend := none) (R2 := fun r H' => r = .v (B true) ∧ H' = upd (upd (push hp (atW s H (.run (i + 1)))) (1, 999) (zir .busy none)) (1, 3) (.box [I .i64 (i : Nat)])) rfl (by decide) (by simp) ?_ ?_ ?_ ?_
  · rw [show z2y (1 + 1) zk6 = [(3, .ptr (2, 3) 0), (4, .ptr (2, 4) 0), (5, .ptr (2, 5) 0), (6, .ptr (2, 6) 0), (7, .ptr (2, 7) 0)] by simp [zk6, z2y, PV.lift]]
    dsimp only [zli, zfp, Tryz.f69]
    repeat' (first | (apply z0c; (first | (apply z0f; (refine z08 rfl rfl rfl rfl rfl rfl ?_)) | (apply z0l; (refine z07 (z0k rfl rfl (by decide)) ?_)))) | (apply z0b; (first | refine z0u ?_ | apply z0a)) | (apply z0d; (apply z01)))
    refine zd2 rfl rfl ?_
    change Run _ _ _ _ ⟨_, _, _, upd (push hp (atW s H (.run (i + 1)))) (1, 999) (zir .busy none)⟩
    have hb3 : upd (push hp (atW s H (.run (i + 1)))) (1, 999) (zir .busy none) 1 3 = some (.box [I .i64 ((i + 1 : Nat) : Int)]) := rfl
    generalize upd (push hp (atW s H (.run (i + 1)))) (1, 999) (zir .busy none) = V at *
    repeat' (first | (apply z0c; (first | refine z0v rfl (by decide) ?_ | (apply z09; (refine z00 (z0g (b := .box [I .i64 ((i + 1 : Nat) : Int)]) rfl rfl rfl rfl) rfl (bkN hb3) (by decide) ?_)) | (apply z18; (refine z00 (z29 (z1n (by omega) (by omega))) rfl rfl (by decide) ?_)) | (apply z0f; (refine z4g (raw' := .box [I .i64 (((i + 1 : Nat) : Int) - 1)]) rfl hb3 rfl rfl rfl rfl rfl rfl ?_)))) | (apply z0b; (first | refine z0u ?_ | apply z0a)) | (apply z0d; (first | apply z0e | apply z01 | refine z0m rfl ?_ | apply z06 | apply z02 | apply z03)))
    all_goals try (exfalso; omega)
    all_goals (rw [show ((i + 1 : Nat) : Int) - 1 = (i : Nat) by omega]; exact zld rfl ⟨rfl, rfl⟩)
  · rintro H' ⟨_, rfl⟩
    refine ⟨zk6, none, z0s (z4f _ _ _) (by simp), rfl, ?_⟩
    funext d t
    match d with
    | 0 => rfl
    | d + 2 => rfl
    | 1 =>
     by_cases h1 : t = 999
     · subst h1; rfl
     by_cases h2 : t = 7
     · subst h2; rfl
     by_cases h3 : t = 6
     · subst h3; rfl
     by_cases h4 : t = 5
     · subst h4; rfl
     by_cases h5 : t = 4
     · subst h5; rfl
     by_cases h6 : t = 3
     · subst h6; rfl
     have k1 := Ne.symm h1
     have k2 := Ne.symm h2
     have k3 := Ne.symm h3
     have k4 := Ne.symm h4
     have k5 := Ne.symm h5
     have k6 := Ne.symm h6
     simp [upd, push, atW, zjz, Ab.look, h1, h2, h3, h4, h5, h6, k1, k2, k3, k4, k5, k6]
  · rintro H' ⟨h, _⟩; cases h
  · rintro id H' ⟨h, _⟩; cases h
theorem zyc (s : ByteArray) (hs : s.size ≤ 1000000) (i : Nat) (hi : i ≤ 1000000) : z1f Tryz.prog 69 [S s, I .i64 (i : Nat)] (atR s i) := by
 refine z1x fun H => ?_
 refine z0t Tryz.func69 (by kernel_rfl) rfl (by simp) ?_
 dsimp only [Tryz.f69]
 refine ziv 901 ?_
 have h37 : ∀ (hp : Hp), Ab.look hp 901 = some Blk.gone → z4e (0, 901) hp = true → z9c Tryz.prog 72 [S s] (push hp H) ⟨fun r H' => r = .v (.fn (.func 111) [] [.ptr (0, 901) 0]) ∧ H' = push ((901, .box [S s]) :: hp) H, fun x => x = (0, 901) ∨ x = (0, 902), none⟩ := by
  intro hp h1 q1
  have qq : ∀ x, z4e (0, x) hp = true → zbl (push hp H) (0, x) := fun x q e t b he hb => by
   obtain rfl : e = 0 := by simp at he; omega
   exact z56 q hb
  have := zlu s (push hp H) h1 (qq 901 q1)
  rw [zfb] at this
  exact this
 repeat' (first | (apply z0c; (first | refine zkr (h37 _ rfl rfl) rfl rfl rfl (by decide) ?_ | refine z0v rfl (by decide) ?_ | (apply z0l; (refine z07 (z0k rfl rfl (by decide)) ?_)) | (apply z2b; (refine z07 (z2k rfl rfl rfl rfl rfl (by decide)) ?_)))) | (apply z0b; (first | refine z0u ?_ | apply z0a)) | (apply z0d; (first | apply z0e | apply z01 | apply z02)))
 all_goals try (exfalso; omega)
 refine z0o (tm' := [(3, .ptr (0, 3) 0), (4, .ptr (0, 4) 0), (5, .ptr (0, 5) 0), (6, .ptr (0, 6) 0), (7, .ptr (0, 7) 0), (10, .fn (.func 111) [] [.ptr (0, 901) 0])]) (hp' := [(7, .box [B false]), (6, .box [I .i64 0]), (5, .box [I .i64 0]), (4, .box [I .i32 0]), (3, .box [I .i64 (i : Nat)]), (901, .box [S s])]) ?_ rfl rfl
 have hsp := ziq s hs (fun _ => zya) zwi zjz (atW s H) (fun x => by cases x <;> rfl) (fun x u _ h1 h2 => by
  match x, h1, h2 with
  | .run (i + 1), h1, _ => have h1 : i + 1 ≤ 1000000 := h1; show i ≤ 1000000; omega) (fun hp x u _ h1 h2 => zop s H hp x u h1) (.run i) hi
 refine zc0 999 5000 zk6 rfl rfl rfl rfl rfl hsp (fun m h => h) ?_
 rintro r H2 ⟨_, rfl⟩
 rw [zq8, atR]
 cases (unF 0 (rst s 0))[i]? with
 | some u =>
  refine ⟨.done, some .ret, zk6, _, H, rfl, by simp, ?_⟩
  exact z0r Tryz.func69 _ (zeh rfl rfl rfl rfl rfl rfl rfl rfl rfl rfl rfl rfl rfl rfl rfl rfl rfl) ⟨rfl, rfl⟩
 | none =>
  refine ⟨.ready, none, zk6, _, H, rfl, by simp, ?_⟩
  refine z0o (tm' := [(3, .ptr (0, 3) 0), (4, .ptr (0, 4) 0), (5, .ptr (0, 5) 0), (6, .ptr (0, 6) 0), (7, .ptr (0, 7) 0)]) (hp' := [(7, .box [B false]), (6, .box [I .i64 0]), (5, .box [I .i64 0]), (4, .box [I .i32 0])]) ?_ rfl rfl
  repeat' (first | (apply z0c; ((apply z0f; (refine z08 rfl rfl rfl rfl rfl rfl ?_)))) | (apply z0b; (first | refine z0u ?_ | apply z0a)) | (apply z0d; (first | apply z0e | apply z01 | apply z03)))
  all_goals try (exfalso; omega)
  all_goals exact z0r Tryz.func69 _ (zeh rfl rfl rfl rfl rfl rfl rfl rfl rfl rfl rfl rfl rfl rfl rfl rfl rfl) ⟨rfl, rfl⟩
end Go.Proofs.YthdfkabdoidjfaaGreatDoor
namespace Go.Proofs.YthdfkabdoidjfaaGreatDoor
open Go.Ab Go.Rx
set_option maxHeartbeats 20000000
set_option maxRecDepth 100000
attribute [local irreducible] Run Ops Op1 z2f Val Tr z1f z2d NF Rel z47 z48
def okU (u : Un) : Bool := !decide (u.1 = 65533) || decide (u.2.2 = 3)
theorem zps (u : Un) : z1f Tryz.prog 73 [.d (.agg (unc u))] (B (okU u)) := by
 refine z1x fun H => ?_
 refine z0t Tryz.func73 (by kernel_rfl) rfl (by simp) ?_
 dsimp only [Tryz.f73]
 rw [okU]
 by_cases h : u.1 = 65533
 · rw [decide_eq_true h, Bool.not_true, Bool.false_or]
   repeat' (first | (apply z0c; (first | refine z0v rfl (by decide) ?_ | (apply z09; (refine z00 (z0g rfl rfl rfl rfl) rfl rfl (by decide) ?_)) | (apply z0h; (refine z00 (z04 rfl rfl) rfl rfl (by decide) ?_)) | (apply z2b; (refine z07 (z4c rfl rfl (by decide)) ?_)))) | (apply z0b; (first | refine z0u ?_ | apply z0a | refine z3v rfl rfl (by decide) ?_ | refine z9y rfl rfl (fun _ => ?_) (fun _ => ?_))) | (apply z0d; (first | apply z0e | apply z01)))
   all_goals try (exfalso; omega)
   all_goals exact z0r Tryz.func73 _ (z0p rfl rfl) ⟨rfl, rfl⟩
 · rw [decide_eq_false h, Bool.not_false, Bool.true_or]
   repeat' (first | (apply z0c; (first | refine z0v rfl (by decide) ?_ | (apply z09; (refine z00 (z0g rfl rfl rfl rfl) rfl rfl (by decide) ?_)) | (apply z0h; (refine z00 (z04 rfl rfl) rfl rfl (by decide) ?_)) | (apply z2b; (refine z07 (z4c rfl rfl (by decide)) ?_)))) | (apply z0b; (first | refine z0u ?_ | apply z0a | refine z3v rfl rfl (by decide) ?_ | refine z9y rfl rfl (fun _ => ?_) (fun _ => ?_))) | (apply z0d; (first | apply z0e | apply z01)))
   all_goals try (exfalso; omega)
   all_goals exact z0r Tryz.func73 _ (z0p rfl rfl) ⟨rfl, rfl⟩
noncomputable def zka : Code := match Tryz.f40.body with | some (.seq _ (.seq (.seq _ (.block _ (.rangeFunc _ _ a _))) _)) => a | _ => .skip
noncomputable def zek : Code := match Tryz.f40.body with | some (.seq _ (.seq (.seq _ (.block _ (.rangeFunc _ _ _ b))) _)) => b | _ => .skip
def zk5 : List (Nat × PV) := [(2, .ptr (0, 2) 0)]
noncomputable def zos (state : LoopState) (j : Option Code) : Blk := .lp 10 40 #[6] zka zek zk5 state j
/-- still reading, or not any more -/
noncomputable def vaW (s : ByteArray) (H : Hf) : Bool → Hf
 | true => push [(999, zos .ready none), (2, .box [B false]), (901, .box [S s])] H
 | false => push [(999, zos .done (some .ret)), (2, .box [B false]), (901, .box [S s])] H
theorem zqh : ∀ l : List Un, zje (fun (_ : Bool) u => okU u) (fun _ u => okU u) true l = l.all okU
 | [] => rfl
 | u :: l => by
  rw [zje, List.all_cons]
  cases h : okU u with
  | true => rw [if_pos rfl, zqh l]; rfl
  | false => rw [if_neg (by decide)]; rfl
theorem zpn (s : ByteArray) (H : Hf) (hp : Hp) (u : Un) : zfg Tryz.prog (1, 999) [.d (.agg (unc u))] (push hp (vaW s H true)) (fun r H' => r = .v (B (okU u)) ∧ H' = push hp (vaW s H (okU u))) (fun y => y = (1, 5000)) := by
 have huv := zps u
 cases ho : okU u with
 | false =>
  rw [ho] at huv
  refine zwe (n' := 10) (f' := 40) (t0 := 6) (asg := zka) (body := zek) (st := zk5) (pend := none) (R2 := fun r H' => r = .v (B false) ∧ H' = upd (upd (push hp (vaW s H true)) (1, 999) (zos .busy none)) (1, 2) (.box [B false])) rfl (by decide) (by simp) ?_ ?_ ?_ ?_
  · rw [show z2y (1 + 1) zk5 = [(2, .ptr (2, 2) 0)] by simp [zk5, z2y, PV.lift]]
    dsimp only [zka, zek, Tryz.f40]
    repeat' (first | (apply z0c; (first | (apply z0f; (refine z08 rfl rfl rfl rfl rfl rfl ?_)) | (apply z0l; (refine z07 (z0k rfl rfl (by decide)) ?_)))) | (apply z0b; (first | refine z0u ?_ | apply z0a)) | (apply z0d; (apply z01)))
    refine zd2 rfl rfl ?_
    change Run _ _ _ _ ⟨_, _, _, upd (push hp (vaW s H true)) (1, 999) (zos .busy none)⟩
    have hb2 : upd (push hp (vaW s H true)) (1, 999) (zos .busy none) 1 2 = some (.box [B false]) := rfl
    generalize upd (push hp (vaW s H true)) (1, 999) (zos .busy none) = V at *
    repeat' (first | (apply z0c; (first | refine z0v rfl (by decide) ?_ | (apply z09; (refine z00 (z14 rfl rfl rfl rfl) rfl rfl (by decide) ?_)) | (apply z16; (refine z3l huv rfl (by decide) ?_)) | (apply z0f; (refine z4g (raw' := .box [B false]) rfl hb2 rfl rfl rfl rfl rfl rfl ?_)))) | (apply z0b; (first | refine z0u ?_ | apply z0a)) | (apply z0d; (first | apply z0e | apply z01 | refine z1d rfl ?_ | apply z02)))
    all_goals try (exfalso; omega)
    all_goals exact zbw rfl ⟨rfl, rfl⟩
  · rintro H' ⟨h, _⟩; cases h
  · rintro H' ⟨_, rfl⟩
    refine ⟨zk5, none, z0s (z4f _ _ _) (by simp), rfl, ?_⟩
    funext d t
    match d with
    | 0 => rfl
    | d + 2 => rfl
    | 1 =>
     by_cases h1 : t = 999
     · subst h1; rfl
     by_cases h2 : t = 2
     · subst h2; rfl
     have k1 := Ne.symm h1
     have k2 := Ne.symm h2
     simp [upd, push, vaW, Ab.look, h1, h2, k1, k2]
  · rintro id H' ⟨h, _⟩; cases h
 | true =>
  rw [ho] at huv
  refine zwe (n' := 10) (f' := 40) (t0 := 6) (asg := zka) (body := zek) (st := zk5) (pend := none) (R2 := fun r H' => r = .v (B true) ∧ H' = upd (push hp (vaW s H true)) (1, 999) (zos .busy none)) rfl (by decide) (by simp) ?_ ?_ ?_ ?_
  · rw [show z2y (1 + 1) zk5 = [(2, .ptr (2, 2) 0)] by simp [zk5, z2y, PV.lift]]
    dsimp only [zka, zek, Tryz.f40]
    repeat' (first | (apply z0c; (first | (apply z0f; (refine z08 rfl rfl rfl rfl rfl rfl ?_)) | (apply z0l; (refine z07 (z0k rfl rfl (by decide)) ?_)))) | (apply z0b; (first | refine z0u ?_ | apply z0a)) | (apply z0d; (apply z01)))
    refine zd2 rfl rfl ?_
    change Run _ _ _ _ ⟨_, _, _, upd (push hp (vaW s H true)) (1, 999) (zos .busy none)⟩
    generalize upd (push hp (vaW s H true)) (1, 999) (zos .busy none) = V at *
    repeat' (first | (apply z0c; (first | refine z0v rfl (by decide) ?_ | (apply z09; (refine z00 (z14 rfl rfl rfl rfl) rfl rfl (by decide) ?_)) | (apply z16; (refine z3l huv rfl (by decide) ?_)))) | (apply z0b; (first | refine z0u ?_ | apply z0a)) | (apply z0d; (first | apply z0e | apply z01 | refine z0m rfl ?_ | apply z06 | apply z02 | apply z03)))
    all_goals try (exfalso; omega)
    all_goals exact zld rfl ⟨rfl, rfl⟩
  · rintro H' ⟨_, rfl⟩
    refine ⟨zk5, none, z4f _ _ _, rfl, ?_⟩
    funext d t
    match d with
    | 0 => rfl
    | d + 2 => rfl
    | 1 =>
     by_cases h1 : t = 999
     · subst h1; rfl
     have k1 := Ne.symm h1
     simp [upd, push, vaW, Ab.look, h1, k1]
  · rintro H' ⟨h, _⟩; cases h
  · rintro id H' ⟨h, _⟩; cases h
theorem zsd (s : ByteArray) (hs : s.size ≤ 1000000) : z1f Tryz.prog 40 [S s] (B ((unF 0 (rst s 0)).all okU)) := by
 refine z1x fun H => ?_
 refine z0t Tryz.func40 (by kernel_rfl) rfl (by simp) ?_
 dsimp only [Tryz.f40]
 refine ziv 901 ?_
 have h37 : ∀ (hp : Hp), Ab.look hp 901 = some Blk.gone → z4e (0, 901) hp = true → z9c Tryz.prog 72 [S s] (push hp H) ⟨fun r H' => r = .v (.fn (.func 111) [] [.ptr (0, 901) 0]) ∧ H' = push ((901, .box [S s]) :: hp) H, fun x => x = (0, 901) ∨ x = (0, 902), none⟩ := by
  intro hp h1 q1
  have qq : ∀ x, z4e (0, x) hp = true → zbl (push hp H) (0, x) := fun x q e t b he hb => by
   obtain rfl : e = 0 := by simp at he; omega
   exact z56 q hb
  have := zlu s (push hp H) h1 (qq 901 q1)
  rw [zfb] at this
  exact this
 repeat' (first | (apply z0c; (first | refine zkr (h37 _ rfl rfl) rfl rfl rfl (by decide) ?_ | refine z0v rfl (by decide) ?_ | (apply z0l; (refine z07 (z0k rfl rfl (by decide)) ?_)))) | (apply z0b; (first | refine z0u ?_ | apply z0a)) | (apply z0d; (first | apply z0e | apply z01 | apply z02)))
 all_goals try (exfalso; omega)
 refine z0o (tm' := [(2, .ptr (0, 2) 0), (5, .fn (.func 111) [] [.ptr (0, 901) 0])]) (hp' := [(2, .box [B false]), (901, .box [S s])]) ?_ rfl rfl
 have hsp := ziq s hs (fun _ b => b = true) (fun (_ : Bool) u => okU u) (fun _ u => okU u) (vaW s H) (fun x => by cases x <;> rfl) (fun x u _ h1 h2 => h2) (fun hp x u _ h1 h2 => by subst h1; exact zpn s H hp u) true rfl
 refine zc0 999 5000 zk5 rfl rfl rfl rfl rfl hsp (fun m h => h) ?_
 rintro r H2 ⟨_, rfl⟩
 rw [zqh]
 cases (unF 0 (rst s 0)).all okU with
 | false =>
  refine ⟨.done, some .ret, zk5, _, H, rfl, by simp, ?_⟩
  exact z0r Tryz.func40 _ (zfj rfl rfl rfl rfl rfl) ⟨rfl, rfl⟩
 | true =>
  refine ⟨.ready, none, zk5, _, H, rfl, by simp, ?_⟩
  refine z0o (tm' := [(2, .ptr (0, 2) 0)]) (hp' := [(2, .box [B false])]) ?_ rfl rfl
  repeat' (first | (apply z0c; ((apply z0f; (refine z08 rfl rfl rfl rfl rfl rfl ?_)))) | (apply z0b; (first | refine z0u ?_ | apply z0a)) | (apply z0d; (first | apply z0e | apply z01 | apply z03)))
  all_goals try (exfalso; omega)
  all_goals exact z0r Tryz.func40 _ (zfj rfl rfl rfl rfl rfl) ⟨rfl, rfl⟩
end Go.Proofs.YthdfkabdoidjfaaGreatDoor
namespace Go.Proofs.YthdfkabdoidjfaaGreatDoor
open Go.Ab Go.Rx
set_option maxHeartbeats 20000000
set_option maxRecDepth 100000
attribute [local irreducible] Run Ops Op1 z2f Val Tr z1f z2d NF Rel z47 z48
def inB (l : List Rg) (c : Int) : Bool := l.any fun r => decide (r.1 ≤ c) && decide (c ≤ r.2)
end Go.Proofs.YthdfkabdoidjfaaGreatDoor
