/- A part of the proof: Shs, G10, G11, G12, G13, G14, G15, G18. -/
import Derived.Shelf.SlSortCmp.NoneTotal
import Derived.Test.YtjmbjgecfpggdaaGreatDoorProg
import Derived.Test.YtjmbjgecfpggdaaGreatDoorRs
import Derived.Test.YtjmbjgecfpggdaaGreatDoorRc
import Derived.Test.YtjmbjgecfpggdaaGreatDoorRx
import Derived.Test.YtjmbjgecfpggdaaGreatDoorRr
set_option linter.all false
set_option linter.unusedVariables false
set_option linter.unusedSimpArgs false
namespace Go.Proofs.YtjmbjgecfpggdaaGreatDoor
open Go.Proofs
open Go.Shelf
def zix : Go.Shelf.Ren := ⟨fun | 6 => 109 | 15 => 114 | 14 => 113 | 28 => 125 | 29 => 126 | 20 => 117 | 21 => 118 | 22 => 119 | 23 => 120 | 24 => 121 | 25 => 122 | 26 => 123 | 27 => 124 | 46 => 127 | 47 => 128 | 48 => 129 | 49 => 130 | 50 => 131 | 57 => 132 | n => n, fun | 22 => 22 | 24 => 52 | 25 => 140 | 3 => 3 | 39 => 120 | 0 => 0 | 53 => 151 | 55 => 85 | 4 => 4 | 46 => 145 | 45 => 144 | 50 => 117 | 5 => 5 | 9 => 9 | 66 => 153 | 70 => 56 | 76 => 158 | 77 => 159 | n => n, fun | n => n⟩
theorem zox : Go.Proofs.SlLaysF0.n6 Tryz.prog zix := {
 mixed := by kernel_rfl
 f6 := ⟨Tryz.f109.name, by decide, Tryz.func109.trans (congrArg some (by kernel_rfl))⟩
 f14 := ⟨Tryz.f113.name, by decide, Tryz.func113.trans (congrArg some (by kernel_rfl))⟩
 f15 := Tryz.func114.trans (congrArg some (by kernel_rfl))
 f20 := ⟨Tryz.f117.name, by decide, Tryz.func117.trans (congrArg some (by kernel_rfl))⟩
 f21 := ⟨Tryz.f118.name, by decide, Tryz.func118.trans (congrArg some (by kernel_rfl))⟩
 f22 := ⟨Tryz.f119.name, by decide, Tryz.func119.trans (congrArg some (by kernel_rfl))⟩
 f23 := ⟨Tryz.f120.name, by decide, Tryz.func120.trans (congrArg some (by kernel_rfl))⟩
 f24 := ⟨Tryz.f121.name, by decide, Tryz.func121.trans (congrArg some (by kernel_rfl))⟩
 f25 := ⟨Tryz.f122.name, by decide, Tryz.func122.trans (congrArg some (by kernel_rfl))⟩
 f26 := ⟨Tryz.f123.name, by decide, Tryz.func123.trans (congrArg some (by kernel_rfl))⟩
 f27 := ⟨Tryz.f124.name, by decide, Tryz.func124.trans (congrArg some (by kernel_rfl))⟩
 f28 := Tryz.func125.trans (congrArg some (by kernel_rfl))
 f29 := Tryz.func126.trans (congrArg some (by kernel_rfl))
 f46 := ⟨Tryz.f127.name, by decide, Tryz.func127.trans (congrArg some (by kernel_rfl))⟩
 f47 := Tryz.func128.trans (congrArg some (by kernel_rfl))
 f48 := Tryz.func129.trans (congrArg some (by kernel_rfl))
 f49 := ⟨Tryz.f130.name, by decide, Tryz.func130.trans (congrArg some (by kernel_rfl))⟩
 f50 := ⟨Tryz.f131.name, by decide, Tryz.func131.trans (congrArg some (by kernel_rfl))⟩
 f57 := ⟨Tryz.f132.name, by decide, Tryz.func132.trans (congrArg some (by kernel_rfl))⟩
 t0 := Tryz.underlying0
 a0 := Tryz.isAgg0
 z0 := Tryz.sizeOf0
 v0 := Tryz.zeroValue0
 t3 := Tryz.underlying3
 a3 := Tryz.isAgg3
 z3 := Tryz.sizeOf3
 v3 := Tryz.zeroValue3
 t4 := Tryz.underlying4
 a4 := Tryz.isAgg4
 z4 := Tryz.sizeOf4
 v4 := Tryz.zeroValue4
 t5 := Tryz.underlying5
 a5 := Tryz.isAgg5
 z5 := Tryz.sizeOf5
 v5 := Tryz.zeroValue5
 t9 := Tryz.underlying9
 a9 := Tryz.isAgg9
 z9 := Tryz.sizeOf9
 v9 := Tryz.zeroValue9
 t22 := Tryz.underlying22
 a22 := Tryz.isAgg22
 z22 := Tryz.sizeOf22
 v22 := Tryz.zeroValue22
 t25 := Tryz.underlying140
 a25 := Tryz.isAgg140
 z25 := Tryz.sizeOf140
 v25 := Tryz.zeroValue140
 t39 := Tryz.underlying120
 a39 := Tryz.isAgg120
 z39 := Tryz.sizeOf120
 v39 := Tryz.zeroValue120
 t45 := Tryz.underlying144
 a45 := Tryz.isAgg144
 z45 := Tryz.sizeOf144
 v45 := Tryz.zeroValue144
 t46 := Tryz.underlying145
 a46 := Tryz.isAgg145
 z46 := Tryz.sizeOf145
 v46 := Tryz.zeroValue145
 t50 := Tryz.underlying117
 a50 := Tryz.isAgg117
 z50 := Tryz.sizeOf117
 v50 := Tryz.zeroValue117
 t53 := Tryz.underlying151
 a53 := Tryz.isAgg151
 z53 := Tryz.sizeOf151
 v53 := Tryz.zeroValue151
 t55 := Tryz.underlying85
 a55 := Tryz.isAgg85
 z55 := Tryz.sizeOf85
 v55 := Tryz.zeroValue85
 t66 := Tryz.underlying153
 a66 := Tryz.isAgg153
 z66 := Tryz.sizeOf153
 v66 := Tryz.zeroValue153
 t70 := Tryz.underlying56
 a70 := Tryz.isAgg56
 z70 := Tryz.sizeOf56
 v70 := Tryz.zeroValue56
 t76 := Tryz.underlying158
 a76 := Tryz.isAgg158
 z76 := Tryz.sizeOf158
 v76 := Tryz.zeroValue158
 t77 := Tryz.underlying159
 a77 := Tryz.isAgg159
 z77 := Tryz.sizeOf159
 v77 := Tryz.zeroValue159 }
open Go.RowKit Go.Lib Go.Sort
theorem zqj (x : Int) (w : World) : Calls Tryz.prog 115 #[.int .i32 x] w fun e w' => e = .returned (.bool false) ∧ w' = w := by
 go_enter Tryz.func115, Tryz.ntmps115
 go_wp2
 go_ret
 exact ⟨by simp, rfl⟩
theorem zvi (x y : Int) (w : World) : Calls Tryz.prog 111 #[.int .i32 x, .int .i32 y] w fun e w' => e = .returned (.int .i64 (Lib.compareInt x y)) ∧ w' = w := by
 go_enter Tryz.func111, Tryz.ntmps111
 go_wp2_with (go_at_call 115; refine (zqj _ _).mono ?_; rintro e w' ⟨rfl, hw⟩; rw [hw])
 all_goals (go_ret; refine ⟨?_, rfl⟩; unfold Lib.compareInt; (repeat' split) <;> first | rfl | (exfalso; omega))
def zs1 (x : Int × Int) : List Value := [.int .i32 x.1, .int .i32 x.2]
theorem zl4 (x y : Int × Int) (W : World) : Calls Tryz.prog 110 #[.agg #[.int .i32 x.1, .int .i32 x.2], .agg #[.int .i32 y.1, .int .i32 y.2]] W fun e w' => e = .returned (.int .i64 (Lib.compareInt x.1 y.1)) ∧ ∃ q os', w' = grow (W.drewN q) os' := by
 have hcon := fun W' => zvi x.1 y.1 W'
 generalize Lib.compareInt x.1 y.1 = r at hcon ⊢
 go_enter Tryz.func110, Tryz.ntmps110
 go_wp2_with (go_at_call 111; refine (hcon _).mono ?_; rintro e w' ⟨rfl, rfl⟩)
 go_ret
 exact ⟨rfl, 0, _, by rw [alloc_eq_grow, alloc_eq_grow, grow_grow]; rfl⟩
abbrev cfR (x y : Int × Int) : Int := Lib.compareInt x.1 y.1
theorem ltR (x y : Int × Int) : ltOf cfR x y = decide (x.1 < y.1) := by
 unfold ltOf cfR Lib.compareInt
 by_cases h1 : x.1 < y.1
 · simp [h1]
 · by_cases h2 : y.1 < x.1 <;> simp [h1, h2]
theorem zv6 : SWO (ltOf cfR) where
 irrefl x := by rw [ltR]; simp
 trans x y z h1 h2 := by rw [ltR] at *; simp at *; omega
 ntrans x y z h1 h2 := by rw [ltR] at *; simp at *; omega
theorem zpz (blk off cap : Nat) (zs : List (Int × Int)) (w : World) (hH : HoldsK zs1 2 w blk off zs.toArray) (hblk : blk < w.heap.size) (hsz : zs.length < 4611686018427387904) :
  Calls Tryz.prog 109 #[.slice (some ⟨blk, off, none⟩) zs.length cap, .func (.func 110) #[] #[]] w fun e w' =>
   e = .returned (.tuple #[]) ∧ ∃ n os, w' = grow (putRowK zs1 2 (Sort.ahead w n) blk off (pdq (ltOf cfR) zs.toArray 0 zs.toArray.size (Lib.bitLen zs.toArray.size) true true)) os := by
 have eg : ∀ args w, (callFunc 110 args).run Tryz.prog w = .ok (.enter 110 args) w := enters_of Tryz.func110 (by kernel_rfl) rfl
 exact AnyQ.slices_SortFunc_eq zox 2 Tryz.isAgg52 Tryz.sizeOf52 zs1 (fun _ => rfl) (fun x v hv => by simp [zs1] at hv; rcases hv with rfl | rfl <;> rfl) cfR zv6 110 #[] blk off cap zs.toArray w eg (fun _ _ _ _ x y => zl4 x y _) hH hblk (by simpa using hsz)
theorem zj2 (p : Option Addr) (cap : Nat) (fv : Value) (w : World) :
  Calls Tryz.prog 109 #[.slice p 0 cap, fv] w fun e w' => e = .returned (.tuple #[]) ∧ w' = w := AnyF.slices_SortFunc_none zox p cap fv w
end Go.Proofs.YtjmbjgecfpggdaaGreatDoor
namespace Go.Proofs.YtjmbjgecfpggdaaGreatDoor
open Go.Ab Go.Rx
set_option maxHeartbeats 20000000
set_option maxRecDepth 100000
attribute [local irreducible] Run Ops Op1 z2r Val Tr z1n z36 NF Rel z5q z5r
theorem znq (l : List Rg) (hl : l.length ≤ 1000000) (hb : ∀ r ∈ l, 0 ≤ r.1 ∧ r.1 ≤ 1114111 ∧ 0 ≤ r.2 ∧ r.2 ≤ 1114111) : z1n Tryz.prog 98 [.d (rgs l)] (.d (rgs (zjc 0 l))) := by
 refine z1u fun H => ?_
 refine z16 Tryz.func98 (by kernel_rfl) rfl (by simp) ?_
 dsimp only [Tryz.f98]
 repeat' (first | (apply z0e; (first | refine z13 rfl (by decide) ?_ | (apply z1k; (refine z00 (z1p rfl) rfl rfl (by decide) ?_)))) | (apply z0f; (first | refine z0z ?_ | apply z0c)) | (apply z0d; (first | apply z0h | apply z01 | apply z02)))
 all_goals try (exfalso; omega)
 refine z4l 3 1000 52 2 rfl rfl rfl ?_
 refine z2b ?_
 refine z0y (z3e (fun q : Nat × Int × List Rg => ⟨37, [(7, .d (rgs l)), (8, I .i64 l.length), (9, I .i64 (q.1 : Nat)), (4, I .i32 q.2.1), (3, .ref (0, 1000))], [(1000, .row 52 2 (q.2.2.map rgc))], H⟩)
  (fun q => q.1 ≤ l.length ∧ 0 ≤ q.2.1 ∧ q.2.1 ≤ 1114112 ∧ q.2.2.length ≤ q.1 ∧ q.2.2 ++ zjc q.2.1 (l.drop q.1) = zjc 0 l) (fun q => l.length - q.1) ?_ (0, 0, []) ⟨Nat.zero_le _, by simp, by simp, by simp, by simp⟩) rfl rfl
 rintro ⟨i, a, out⟩ ⟨i1, i2, i3, i4, i5⟩ ih
 simp only at i1 i2 i3 i4 i5 ih ⊢
 by_cases hlt : i < l.length
 · obtain ⟨r, hr⟩ : ∃ r, l[i]? = some r := ⟨_, List.getElem?_eq_getElem hlt⟩
   obtain ⟨b1, b2, b3, b4⟩ := hb r (List.mem_of_getElem? hr)
   rw [drop_cons hr, zjc] at i5
   by_cases hc : a < r.1
   · rw [if_pos hc] at i5
     repeat' (first | (apply z0e; (first | refine z13 rfl (by decide) ?_ | (apply z09; (first | refine z00 (z0k rfl rfl rfl rfl) rfl rfl (by decide) ?_ | refine z00 (z0w rfl rfl) rfl rfl (by decide) ?_)) | (apply z08; (refine z00 (z03 rfl rfl) rfl rfl (by decide) ?_)) | (apply z1c; (refine z00 (z0t (ys := l.map rgc) rfl (by omega) (idx hr) rfl) rfl rfl (by decide) ?_)) | (apply z19; (first | refine z00 (z4a (za5 (by omega) (by omega))) rfl rfl (by decide) ?_ | refine z00 (z1e (za5 (by omega) (by omega))) rfl rfl (by decide) ?_ | refine z00 (z1e (z1s (by omega) (by omega))) rfl rfl (by decide) ?_)) | (apply z1k; (refine z4s (g := rgc) rfl rfl (a, r.1 - 1) rfl rfl rfl rfl rfl rfl rfl (by decide) (by omega) ?_)) | (apply z0i; (refine z0b rfl rfl rfl rfl rfl rfl ?_)) | (apply z0q; (refine z0j (z0p rfl rfl (by decide)) ?_)) | (apply z1i; (refine z1j rfl rfl rfl rfl rfl rfl rfl (by decide) ?_)) | (apply z3p; (refine z3n rfl rfl rfl rfl rfl rfl rfl rfl (by decide) ?_)))) | (apply z0f; (first | refine z0z ?_ | apply z0c)) | (apply z0d; (first | apply z0h | apply z01 | apply z06 | apply z02 | apply z04 | refine z1o rfl (fun _ => ?_) (fun _ => ?_) | refine z0r rfl ?_)))
     all_goals try (exfalso; omega)
     refine z73 24 1000 rfl rfl ?_
     exact z0y (ih (i + 1, r.2 + 1, out ++ [(a, r.1 - 1)]) ⟨by simp only; omega, by simp only; omega, by simp only; omega, by simp; omega, by simpa using i5⟩ (by simp only; omega)) rfl rfl
   · rw [if_neg hc] at i5
     repeat' (first | (apply z0e; (first | refine z13 rfl (by decide) ?_ | (apply z09; (first | refine z00 (z0k rfl rfl rfl rfl) rfl rfl (by decide) ?_ | refine z00 (z0w rfl rfl) rfl rfl (by decide) ?_)) | (apply z08; (refine z00 (z03 rfl rfl) rfl rfl (by decide) ?_)) | (apply z1c; (refine z00 (z0t (ys := l.map rgc) rfl (by omega) (idx hr) rfl) rfl rfl (by decide) ?_)) | (apply z19; (first | refine z00 (z1e (za5 (by omega) (by omega))) rfl rfl (by decide) ?_ | refine z00 (z1e (z1s (by omega) (by omega))) rfl rfl (by decide) ?_)) | (apply z0i; (refine z0b rfl rfl rfl rfl rfl rfl ?_)) | (apply z0q; (refine z0j (z0p rfl rfl (by decide)) ?_)) | (apply z1i; (refine z1j rfl rfl rfl rfl rfl rfl rfl (by decide) ?_)) | (apply z3p; (refine z3n rfl rfl rfl rfl rfl rfl rfl rfl (by decide) ?_)))) | (apply z0f; (first | refine z0z ?_ | apply z0c)) | (apply z0d; (first | apply z0h | apply z01 | apply z06 | apply z02 | apply z04 | refine z1o rfl (fun _ => ?_) (fun _ => ?_) | refine z0r rfl ?_)))
     all_goals try (exfalso; omega)
     exact z0y (ih (i + 1, r.2 + 1, out) ⟨by simp only; omega, by simp only; omega, by simp only; omega, by simp; omega, by simpa using i5⟩ (by simp only; omega)) rfl rfl
 · obtain rfl : i = l.length := by omega
   rw [List.drop_length, zjc] at i5
   by_cases hc : a ≤ 1114111
   · rw [if_pos hc] at i5
     rw [← i5]
     repeat' (first | (apply z0e; (first | refine z13 rfl (by decide) ?_ | (apply z1k; (refine z4s (g := rgc) rfl rfl (a, 1114111) rfl rfl rfl rfl rfl rfl rfl (by decide) (by omega) ?_)) | (apply z1i; (refine z1j rfl rfl rfl rfl rfl rfl rfl (by decide) ?_)) | (apply z3p; (refine z3n rfl rfl rfl rfl rfl rfl rfl rfl (by decide) ?_)))) | (apply z0f; (first | refine z0z ?_ | apply z0c)) | (apply z0d; (first | apply z0h | apply z01 | apply z06 | apply z02 | refine z1o rfl (fun _ => ?_) (fun _ => ?_) | refine z0r rfl ?_)))
     all_goals try (exfalso; omega)
     refine z4u 35 rfl ?_
     exact z07 Tryz.func98 _ (z0a rfl rfl) ⟨rfl, rfl⟩
   · rw [if_neg hc, List.append_nil] at i5
     rw [← i5]
     repeat' (first | (apply z0e; (first | refine z13 rfl (by decide) ?_ | (apply z1i; (refine z1j rfl rfl rfl rfl rfl rfl rfl (by decide) ?_)) | (apply z3p; (refine z3n rfl rfl rfl rfl rfl rfl rfl rfl (by decide) ?_)))) | (apply z0f; (first | refine z0z ?_ | apply z0c)) | (apply z0d; (first | apply z0h | apply z01 | apply z06 | apply z02 | refine z1o rfl (fun _ => ?_) (fun _ => ?_) | refine z0r rfl ?_)))
     all_goals try (exfalso; omega)
     refine z4u 1000 rfl ?_
     exact z07 Tryz.func98 _ (z0a rfl rfl) ⟨rfl, rfl⟩
open Go.Sort Go.RowKit in
def srt (q : List Rg) : List Rg := (pdq (ltOf cfR) q.toArray 0 q.toArray.size (Lib.bitLen q.toArray.size) true true).toList
open Go.Sort Go.RowKit in
theorem z7n (q : List Rg) : (srt q).Perm q := by
 have h := (pdq_sorts (ltOf cfR) zv6 q.toArray 0 q.toArray.size (Lib.bitLen q.toArray.size) true true (Nat.zero_le _) (Nat.le_refl _) (Or.inl rfl)).1
 obtain ⟨h1, _, h3⟩ := h
 rw [srt]
 generalize pdq (ltOf cfR) q.toArray 0 q.toArray.size (Lib.bitLen q.toArray.size) true true = d at *
 rw [← h1] at h3
 have h4 : d.size = q.length := by simpa using h1
 simp only [Array.extract_size, List.extract_toArray] at h3
 simpa [h4] using h3
open Go.Sort Go.RowKit in
theorem zqn (q : List Rg) : (srt q).Pairwise fun x y => x.1 ≤ y.1 := by
 have hp := z7n q
 have h := (pdq_sorts (ltOf cfR) zv6 q.toArray 0 q.toArray.size (Lib.bitLen q.toArray.size) true true (Nat.zero_le _) (Nat.le_refl _) (Or.inl rfl)).2
 rw [srt] at hp ⊢
 generalize pdq (ltOf cfR) q.toArray 0 q.toArray.size (Lib.bitLen q.toArray.size) true true = d at *
 have hl := hp.length_eq
 rw [List.pairwise_iff_getElem]
 intro i j hi hj hij
 have := h i j (Nat.zero_le _) hij (by simpa [← hl] using hj)
 rw [ltR] at this
 have hi' : i < d.size := by simpa using hi
 have hj' : j < d.size := by simpa using hj
 rw [getElem!_pos d _ hj', getElem!_pos d _ hi'] at this
 simpa using this
theorem zoi : ∀ (l : List Rg) (a : Int), (∀ r ∈ l, a ≤ r.1 ∧ r.1 ≤ r.2) → (l.Pairwise fun x y => x.1 ≤ y.1) → zmd a l
 | [], _, _, _ => trivial
 | r :: l, a, h, hp => by
  rw [List.pairwise_cons] at hp
  exact ⟨(h r (by simp)).1, (h r (by simp)).2, zoi l r.1 (fun x hx => ⟨hp.1 x hx, (h x (by simp [hx])).2⟩) hp.2⟩
theorem zny {q : List Rg} (h : ∀ r ∈ q, 0 ≤ r.1 ∧ r.1 ≤ r.2) : zaf (srt q) = norm q :=
 znb h (zoi _ 0 (fun r hr => h r ((z7n q).mem_iff.1 hr)) (zqn q)) fun x => (z7n q).mem_iff
theorem ztl (q : List Rg) (hq : q.length < 4611686018427387904) (d x : Nat) : z36 Tryz.prog 109 [.ref (d, x), .fn (.func 110) [] []] [((d, x), .row 52 2 (q.map rgc))] [((d, x), .row 52 2 ((srt q).map rgc))] (.tup []) := by
 have hl : (srt q).length = q.length := (z7n q).length_eq
 refine zl0 (α := Rg) (by decide) zs1 (fun _ => rfl) (fun x v hv => by simp [zs1] at hv; rcases hv with rfl | rfl <;> rfl) ⟨_, Tryz.func109, by kernel_rfl, by kernel_rfl⟩ (fv := .func (.func 110) #[] #[]) (fun β w own v h => ?_) q (srt q) hl (fun blk off cap w h1 h2 => ?_) (fun p cap w => zj2 p cap _ w) d x
 · cases h with
   | fn f first cap fv cv h1 h2 hd1 hd2 =>
    obtain rfl : fv = [] := by cases fv with | nil => rfl | cons a b => simp at h1
    obtain rfl : cv = [] := by cases cv with | nil => rfl | cons a b => simp at h2
    rfl
 · exact zpz blk off cap q w h1 h2 hq
theorem znj {pre : List Rg} {p v : Rg} : (pre ++ [p]).set ((((pre ++ [p]).length : Nat) : Int) - 1).toNat v = pre ++ [v] := by
 rw [show ((((pre ++ [p]).length : Nat) : Int) - 1).toNat = pre.length by simp]
 simp
theorem ze6 {pre : List Rg} {p : Rg} : (pre ++ [p])[((((pre ++ [p]).length : Nat) : Int) - 1).toNat]? = some p := by
 rw [show ((((pre ++ [p]).length : Nat) : Int) - 1).toNat = pre.length by simp]
 simp
theorem zi2 (q : List Rg) (hq : q.length ≤ 1000000) (hb : ∀ r ∈ q, 0 ≤ r.1 ∧ r.1 ≤ r.2 ∧ r.2 ≤ 1114111) : z36 Tryz.prog 97 [.ref (0, 1000)] [((0, 1000), .row 52 2 (q.map rgc))] [((0, 1000), .gone)] (.d (rgs (norm q))) := by
 refine z42 fun H hH => ?_
 have hX : H 0 1000 = some (.row 52 2 (q.map rgc)) := hH ((0, 1000), .row 52 2 (q.map rgc)) (by simp)
 refine z16 Tryz.func97 (by kernel_rfl) rfl (by simp) ?_
 dsimp only [Tryz.f97]
 rw [← zny fun r hr => ⟨(hb r hr).1, (hb r hr).2.1⟩]
 have hst := ztl q (by omega) 0 2000
 have hl : (srt q).length = q.length := (z7n q).length_eq
 have hbs : ∀ r ∈ srt q, 0 ≤ r.1 ∧ r.1 ≤ r.2 ∧ r.2 ≤ 1114111 := fun r hr => hb r ((z7n q).mem_iff.1 hr)
 generalize srt q = S at *
 refine z4c 2000 0 1000 hX rfl rfl ?_
 repeat' (first | (apply z0e; (first | refine z13 rfl (by decide) ?_ | (apply z1k; (refine z00 (z1p rfl) rfl rfl (by decide) ?_)) | (apply z0l; ((refine z6w hst rfl rfl (by decide) ?_; refine z90 2000 rfl ?_))))) | (apply z0f; (first | refine z0z ?_ | apply z0c)) | (apply z0d; (first | apply z0h | apply z01 | apply z02)))
 all_goals try (exfalso; omega)
 refine z4l 3 1000 52 2 rfl rfl rfl ?_
 refine z2b ?_
 refine z0y (z3e (fun q : Nat × List Rg => ⟨51, [(9, .d (rgs S)), (10, I .i64 S.length), (11, I .i64 (q.1 : Nat)), (3, .ref (0, 1000))], [(1000, .row 52 2 (q.2.map rgc))], upd H (0, 1000) .gone⟩)
  (fun q => q.1 ≤ S.length ∧ ((q.1 = 0 ∧ q.2 = []) ∨ ∃ pre p, q.2 = pre ++ [p] ∧ pre.length < q.1 ∧ 0 ≤ p.2 ∧ p.2 ≤ 1114111 ∧ pre ++ z7u p (S.drop q.1) = zaf S)) (fun q => S.length - q.1) ?_ (0, []) ⟨Nat.zero_le _, .inl ⟨rfl, rfl⟩⟩) rfl rfl
 rintro ⟨i, out⟩ ⟨i1, i2⟩ ih
 simp only at i1 i2 ih ⊢
 by_cases hlt : i < S.length
 · obtain ⟨r, hr⟩ : ∃ r, S[i]? = some r := ⟨_, List.getElem?_eq_getElem hlt⟩
   obtain ⟨b1, b2, b3⟩ := hbs r (List.mem_of_getElem? hr)
   rcases i2 with ⟨rfl, rfl⟩ | ⟨pre, p, rfl, j1, j2, j3, j4⟩
   · repeat' (first | (apply z0e; (first | refine z13 rfl (by decide) ?_ | (apply z09; (first | refine z00 (z0w rfl rfl) rfl rfl (by decide) ?_ | refine z00 (z1a rfl rfl rfl rfl) rfl rfl (by decide) ?_)) | (apply z1c; (refine z00 (z0t (ys := S.map rgc) rfl (by omega) (idx hr) rfl) rfl rfl (by decide) ?_)) | (apply z19; (refine z00 (z1e (z1s (by omega) (by omega))) rfl rfl (by decide) ?_)) | (apply z1k; (first | refine z4s (q := ([] : List Rg)) (g := rgc) rfl rfl r rfl rfl rfl rfl rfl rfl rfl (by decide) (by simp) ?_ | refine z00 (z2k rfl) rfl rfl (by decide) ?_)) | (apply z0i; (refine z0b rfl rfl rfl rfl rfl rfl ?_)) | (apply z0q; (refine z0j (z0p rfl rfl (by decide)) ?_)) | (apply z3p; (refine z3n rfl rfl rfl rfl rfl rfl rfl rfl (by decide) ?_)))) | (apply z0f; (first | refine z0z ?_ | apply z0c)) | (apply z0d; (first | apply z0h | apply z01 | refine z0g rfl ?_ | apply z06 | apply z02 | apply z3w | apply z04 | refine z1o rfl (fun _ => ?_) (fun _ => ?_) | refine z0r rfl ?_)) | (apply z3x; (first | (apply z1v; refine z2o mix (by kernel_rfl) ?_) | refine z3u rfl rfl (by decide) ?_ | refine z47 rfl (by first | exact rfl | exact ⟨_, rfl, rfl, rfl⟩) (by decide) ?_)))
     all_goals try (exfalso; omega)
     refine z73 48 1000 rfl rfl ?_
     exact z0y (ih (1, [r]) ⟨by simp only; omega, .inr ⟨[], r, rfl, by simp, by omega, b3, by rw [List.nil_append, ← show zaf (r :: S.drop 1) = z7u r (S.drop 1) from rfl, ← drop_cons hr, List.drop_zero]⟩⟩ (by simp only; omega)) rfl rfl
   · rw [drop_cons hr, z7u] at j4
     have hla : ((pre ++ [p]).length : Int) = pre.length + 1 := by simp
     by_cases hc : r.1 ≤ p.2 + 1
     · rw [if_pos hc] at j4
       repeat' (first | (apply z0e; (first | refine z13 rfl (by decide) ?_ | (apply z09; (first | refine z00 (z0w rfl rfl) rfl rfl (by decide) ?_ | refine z00 (z1a rfl rfl rfl rfl) rfl rfl (by decide) ?_)) | (apply z1c; (refine z00 (z0t (ys := S.map rgc) rfl (by omega) (idx hr) rfl) rfl rfl (by decide) ?_)) | (apply z19; (refine z00 (z1e (z1s (by omega) (by omega))) rfl rfl (by decide) ?_)) | (apply z1k; (first | refine z00 (z2k rfl) rfl rfl (by decide) ?_ | refine z4s rfl rfl _ rfl rfl rfl rfl rfl rfl rfl (by decide) (by omega) ?_)) | (apply z0i; (refine z0b rfl rfl rfl rfl rfl rfl ?_)) | (apply z0q; (refine z0j (z0p rfl rfl (by decide)) ?_)) | (apply z3p; (refine z3n rfl rfl rfl rfl rfl rfl rfl rfl (by decide) ?_)))) | (apply z0f; (first | refine z0z ?_ | apply z0c)) | (apply z0d; (first | apply z0h | apply z01 | refine z0g rfl ?_ | apply z06 | apply z02 | apply z3w | apply z04 | refine z1o rfl (fun _ => ?_) (fun _ => ?_) | refine z0r rfl ?_)) | (apply z3x; (first | (apply z1v; refine z2o mix (by kernel_rfl) ?_) | refine z3u rfl rfl (by decide) ?_ | refine z47 rfl (by first | exact rfl | exact ⟨_, rfl, rfl, rfl⟩) (by decide) ?_ | (apply z1g; (first | refine z0n (zhu ze6 rfl rfl rfl) (by first | exact rfl | exact ⟨_, rfl, rfl, rfl⟩) rfl rfl (by decide) ?_ | refine z0n (z0k rfl rfl rfl rfl) (by first | exact rfl | exact ⟨_, rfl, rfl, rfl⟩) rfl rfl (by decide) ?_)) | (apply z1b; (first | refine z0n (z03 rfl rfl) (by first | exact rfl | exact ⟨_, rfl, rfl, rfl⟩) rfl rfl (by decide) ?_ | refine z0n (zi4 rfl rfl) (by first | exact rfl | exact ⟨_, rfl, rfl, rfl⟩) rfl rfl (by decide) ?_)) | (apply z1w; (refine z0n (zdm rfl (by omega) (by rw [List.length_map]; omega) rfl) (by first | exact rfl | exact ⟨_, rfl, rfl, rfl⟩) rfl rfl (by decide) ?_)) | (apply z4y; (first | refine z0n (z1e (za5 (by omega) (by omega))) (by first | exact rfl | exact ⟨_, rfl, rfl, rfl⟩) rfl rfl (by decide) ?_ | refine z0n (z4a (z1s (by omega) (by omega))) (by first | exact rfl | exact ⟨_, rfl, rfl, rfl⟩) rfl rfl (by decide) ?_)) | (apply z4h; (refine z0n zak (by first | exact rfl | exact ⟨_, rfl, rfl, rfl⟩) rfl rfl (by decide) ?_)) | (apply z3v; (refine zlu (p.1, max p.2 r.2) (by first | exact rfl | exact ⟨_, rfl, rfl, rfl⟩) rfl rfl rfl rfl ze6 rfl rfl rfl znj ?_)) | (refine z2n rfl rfl (fun hg => ?_) (fun hg => ?_) <;> simp only [hg] <;> (try simp only [decide_eq_true_eq, decide_eq_false_iff_not, Bool.not_eq_true', Bool.not_eq_false'] at hg)))))
       all_goals try (exfalso; omega)
       exact z0y (ih (i + 1, pre ++ [(p.1, max p.2 r.2)]) ⟨by simp only; omega, .inr ⟨pre, _, rfl, by simp only; omega, by simp only; omega, by simp only; omega, j4⟩⟩ (by simp only; omega)) rfl rfl
     · rw [if_neg hc] at j4
       repeat' (first | (apply z0e; (first | refine z13 rfl (by decide) ?_ | (apply z09; (first | refine z00 (z0w rfl rfl) rfl rfl (by decide) ?_ | refine z00 (z1a rfl rfl rfl rfl) rfl rfl (by decide) ?_)) | (apply z1c; (refine z00 (z0t (ys := S.map rgc) rfl (by omega) (idx hr) rfl) rfl rfl (by decide) ?_)) | (apply z19; (refine z00 (z1e (z1s (by omega) (by omega))) rfl rfl (by decide) ?_)) | (apply z1k; (first | refine z4s (g := rgc) rfl rfl r rfl rfl rfl rfl rfl rfl rfl (by decide) (by omega) ?_ | refine z00 (z2k rfl) rfl rfl (by decide) ?_)) | (apply z0i; (refine z0b rfl rfl rfl rfl rfl rfl ?_)) | (apply z0q; (refine z0j (z0p rfl rfl (by decide)) ?_)) | (apply z3p; (refine z3n rfl rfl rfl rfl rfl rfl rfl rfl (by decide) ?_)))) | (apply z0f; (first | refine z0z ?_ | apply z0c)) | (apply z0d; (first | apply z0h | apply z01 | refine z0g rfl ?_ | apply z06 | apply z02 | apply z3w | apply z04 | refine z1o rfl (fun _ => ?_) (fun _ => ?_) | refine z0r rfl ?_)) | (apply z3x; (first | (apply z1v; refine z2o mix (by kernel_rfl) ?_) | refine z3u rfl rfl (by decide) ?_ | refine z47 rfl (by first | exact rfl | exact ⟨_, rfl, rfl, rfl⟩) (by decide) ?_ | (apply z1g; (first | refine z0n (zhu ze6 rfl rfl rfl) (by first | exact rfl | exact ⟨_, rfl, rfl, rfl⟩) rfl rfl (by decide) ?_ | refine z0n (z0k rfl rfl rfl rfl) (by first | exact rfl | exact ⟨_, rfl, rfl, rfl⟩) rfl rfl (by decide) ?_)) | (apply z1b; (first | refine z0n (z03 rfl rfl) (by first | exact rfl | exact ⟨_, rfl, rfl, rfl⟩) rfl rfl (by decide) ?_ | refine z0n (zi4 rfl rfl) (by first | exact rfl | exact ⟨_, rfl, rfl, rfl⟩) rfl rfl (by decide) ?_)) | (apply z1w; (refine z0n (zdm rfl (by omega) (by rw [List.length_map]; omega) rfl) (by first | exact rfl | exact ⟨_, rfl, rfl, rfl⟩) rfl rfl (by decide) ?_)) | (apply z4y; (first | refine z0n (z1e (za5 (by omega) (by omega))) (by first | exact rfl | exact ⟨_, rfl, rfl, rfl⟩) rfl rfl (by decide) ?_ | refine z0n (z4a (z1s (by omega) (by omega))) (by first | exact rfl | exact ⟨_, rfl, rfl, rfl⟩) rfl rfl (by decide) ?_)) | (apply z4h; (refine z0n zak (by first | exact rfl | exact ⟨_, rfl, rfl, rfl⟩) rfl rfl (by decide) ?_)) | (refine z2n rfl rfl (fun hg => ?_) (fun hg => ?_) <;> simp only [hg] <;> (try simp only [decide_eq_true_eq, decide_eq_false_iff_not, Bool.not_eq_true', Bool.not_eq_false'] at hg)))))
       all_goals try (exfalso; omega)
       refine z73 48 1000 rfl rfl ?_
       exact z0y (ih (i + 1, pre ++ [p] ++ [r]) ⟨by simp only; omega, .inr ⟨pre ++ [p], r, rfl, by simp only [List.length_append, List.length_singleton]; omega, by omega, b3, by rw [List.append_assoc]; exact j4⟩⟩ (by simp only; omega)) rfl rfl
 · obtain rfl : i = S.length := by omega
   rw [List.drop_length] at i2
   have hout : out = zaf S := by
    rcases i2 with ⟨h1, rfl⟩ | ⟨pre, p, rfl, j1, j2, j3, j4⟩
    · rw [List.length_eq_zero_iff.1 h1]; rfl
    · rw [← j4, z7u]
   rw [← hout]
   repeat' (first | (apply z0e; (refine z13 rfl (by decide) ?_)) | (apply z0f; (first | refine z0z ?_ | apply z0c)) | (apply z0d; (first | apply z0h | apply z01 | apply z06 | apply z02 | refine z1o rfl (fun _ => ?_) (fun _ => ?_) | refine z0r rfl ?_)))
   all_goals try (exfalso; omega)
   refine z4u 1000 rfl ?_
   exact z07 Tryz.func97 _ (z0a rfl rfl) ⟨rfl, rfl⟩
end Go.Proofs.YtjmbjgecfpggdaaGreatDoor
namespace Go.Proofs.YtjmbjgecfpggdaaGreatDoor
open Go.Ab Go.Rx
set_option maxHeartbeats 20000000
set_option maxRecDepth 100000
attribute [local irreducible] Run Ops Op1 z2r Val Tr z1n z36 NF Rel z5q z5r
abbrev eX (e : Rx) : D := .agg (rxc e)
theorem zdh {sp : List Int} {s : ByteArray} {i : Nat} {c : Int} {r : List U} (hi : i ≤ s.size) (h : z8l sp (rst s i) = .ok c r) : (0 ≤ c ∧ c ≤ 1114111) ∧ ∃ j, i < j ∧ j ≤ s.size ∧ r = rst s j := by
 have h1 := zau sp (rst s i)
 have hr : 0 ≤ c ∧ c ≤ 1114111 := by
  have hlt : i < s.size := by
   false_or_by_contra
   rw [z3m (by omega)] at h; simp [z8l] at h
  have g0 := zh8 s i
  rw [z4m hlt, z4e] at h
  split at h
  · by_cases h2 : i + (Utf8.decode s i).2 < s.size
    · have g1 := zh8 s (i + (Utf8.decode s i).2)
      rw [z4m h2] at h
      simp only at h
      split at h
      · simp only [Rd.ok.injEq] at h; omega
      · simp at h
    · rw [z3m (by omega)] at h; simp at h
  · split at h
    · simp at h
    · simp only [Rd.ok.injEq] at h; omega
 rw [h] at h1
 obtain ⟨j, g1, g2, rfl⟩ := z5p s _ i r (Nat.le_refl _) hi h1.1
 refine ⟨hr, j, ?_, g2, rfl⟩
 rcases Nat.lt_or_ge i j with h3 | h3
 · exact h3
 · obtain rfl : i = j := by omega
   exact absurd h1.2 (Nat.lt_irrefl _)
theorem z95 {sp : List Int} {l : List U} : z8l sp l ≠ .out := by
 intro h
 cases l with
 | nil => simp [z8l] at h
 | cons c l =>
  rw [z4e] at h
  split at h
  · cases l with
    | nil => simp at h
    | cons d l => simp only at h; split at h <;> simp at h
  · split at h <;> simp at h
theorem zi7 (r : Rg) : ∀ l : List Rg, (zeq r l).length = l.length + 1
 | [] => rfl
 | x :: l => by rw [zeq]; split <;> simp [zi7 r l]
theorem zev : ∀ (l acc : List Rg), (l.foldl (fun a r => zeq r a) acc).length = l.length + acc.length
 | [], acc => by simp
 | r :: l, acc => by rw [List.foldl_cons, zev l, zi7, List.length_cons]; omega
theorem zaz : ∀ (l : List Rg) (p : Rg), (z7u p l).length ≤ l.length + 1
 | [], p => by simp [z7u]
 | r :: l, p => by
  rw [z7u]; split
  · have := zaz l (p.1, max p.2 r.2); simp only [List.length_cons]; omega
  · have := zaz l r; simp only [List.length_cons]; omega
theorem zha (l : List Rg) : (norm l).length ≤ l.length := by
 have h := zev l []
 rw [norm, zqg]
 cases hs : l.foldl (fun a r => zeq r a) [] with
 | nil => simp [zaf]
 | cons r q =>
  rw [hs] at h
  have := zaz q r
  rw [zaf]; simp at h; omega
theorem zhm {l : List Rg} (h : ∀ r ∈ l, 0 ≤ r.1 ∧ r.1 ≤ r.2 ∧ r.2 ≤ 1114111) : ∀ r ∈ norm l, 0 ≤ r.1 ∧ r.1 ≤ 1114111 ∧ 0 ≤ r.2 ∧ r.2 ≤ 1114111 := by
 obtain ⟨h1, h2⟩ := zbw (a := 0) fun r hr => ⟨(h r hr).1, (h r hr).2.1⟩
 intro r hr
 have hle := zsi.zbp h1 r hr
 have key : ∀ c, inS (norm l) c → 0 ≤ c ∧ c ≤ 1114111 := fun c hc => by
  obtain ⟨x, hx, h3, h4⟩ := (h2 c).1 hc
  have := h x hx; omega
 have k1 := key r.1 ⟨r, hr, Int.le_refl _, hle⟩
 have k2 := key r.2 ⟨r, hr, hle, Int.le_refl _⟩
 omega
/-- what a class is, its ranges read -/
def zku (b : Bool) (L : List U) : Rd (List Rg) → Rd Rx
 | .out => .out
 | .err a e => .err a e
 | .ok rs l1 => if b = true then (if (zol rs).length = 0 then .err L 1 else .ok (zho (zol rs)) l1) else .ok (zho (norm rs)) l1
theorem zsa {n : Nat} {l : List U} (h : nx l.tail = 94) : ze7 n l = zku true l (z4d n [] l.tail.tail) := by
 rw [ze7, if_pos h]
 cases z4d n [] l.tail.tail <;> rfl
theorem zud {n : Nat} {l : List U} (h : nx l.tail ≠ 94) : ze7 n l = zku false l (z4d n [] l.tail) := by
 rw [ze7, if_neg h]
 cases z4d n [] l.tail <;> rfl
section
variable {X : Nat} (hX0 : X ≠ 700) (hX1 : X ≠ 701) (τ : Tab) (s : ByteArray) (hs : s.size ≤ 1000000)
include hX0 hX1 hs
theorem zpq (n i : Nat) (hi : i ≤ s.size) (h91 : nx (rst s i) = 91) (hne : ze7 n (rst s i) ≠ .out) (e0 : Nat) :
  z36 Tryz.prog 84 [.ptr (e0, X) 0] (((e0, X), pbx s i 0 0) :: zd9 τ (e0 + 1)) [((e0, X), zja s (ze7 n (rst s i)))] (z8m eX (eX zc8) (ze7 n (rst s i))) := by
 refine z42 fun H hH => ?_
 have hX : H e0 X = some (pbx s i 0 0) := hH ((e0, X), pbx s i 0 0) (by simp)
 have hT : HT τ (e0 + 1) H := HT.of (bs := [((e0, X), pbx s i 0 0)]) hH
 refine z16 Tryz.func84 (by kernel_rfl) rfl (by simp) ?_
 dsimp only [Tryz.f84]
 obtain ⟨hlt, ht, he⟩ := z2u hi h91 (by decide) (by decide)
 have hn1 := z4t (X := X) τ s (i + 1) hlt 0 0 (e0 + 1)
 by_cases hng : nx (rst s (i + 1)) = 94
 · obtain ⟨hlt1, ht1, he1⟩ := z2u (i := i + 1) hlt hng (by decide) (by decide)
   have hq : ze7 n (rst s i) = zku true (rst s i) (z4d n [] (rst s (i + 2))) := by rw [zsa (by rw [ht]; exact hng), ht, ht1]
   have hj0 : i + 2 ≤ s.size := hlt1
   rw [hng] at hn1
   obtain ⟨T, hT0⟩ : ∃ T, z4d n [] (rst s (i + 2)) = T := ⟨_, rfl⟩
   rw [hT0] at hq
   rw [hq] at hne ⊢
   repeat' (first | (apply z0e; (first | refine z13 rfl (by decide) ?_ | (apply z09; (first | refine z14 rfl (z05 _ (e0, X) _) rfl rfl rfl rfl (by decide) ?_ | refine z14 rfl hX rfl rfl rfl rfl (by decide) ?_)) | (apply z08; (refine z00 (z03 rfl rfl) rfl rfl (by decide) ?_)) | (apply z19; (refine z00 (z1e (z1s (by omega) (by omega))) rfl rfl (by decide) ?_)) | (apply z0l; (refine z15 hn1 rfl (z0s (m := (e0 + 1, X)) (z05 _ (e0, X) _) (bkT (by repeat (first | exact hT | refine HT.upd ?_ hX0 hX1)))) (by decide) ?_)) | (apply z0i; (first | refine z18 (raw' := pbx s ((i + 2 : Nat) : Int) 0 0) rfl (z05 _ (e0, X) _) rfl rfl rfl rfl rfl rfl ?_ | refine z18 (raw' := pbx s ((i + 1 : Nat) : Int) 0 0) rfl hX rfl rfl rfl rfl rfl rfl ?_)) | (apply z0q; (refine z0j (z0p rfl rfl (by decide)) ?_)))) | (apply z0f; (first | refine z0z ?_ | apply z0c)) | (apply z0d; (first | apply z0h | apply z01 | refine z0o rfl ?_ | apply z02)))
   all_goals try (exfalso; omega)
   rw [z0x]
   refine z4l 6 1000 52 2 rfl rfl rfl ?_
   refine z2b ?_
   refine z0y (z3e (fun q : Nat × List Rg × Nat => ⟨108, [(0, .ptr (e0 + 1, X) 0), (2, .ptr (0, 2) 0), (4, I .i64 (i : Nat)), (5, B true), (6, .ref (0, 1000))], [(1000, .row 52 2 (q.2.1.map rgc)), (2, .box (z6l [Value.int .i64 0, Value.int .i64 0, Value.int .i64 0, z57, z57]))], upd H (e0, X) (pbx s (q.2.2 : Nat) 0 0)⟩)
    (fun q => q.2.2 ≤ s.size ∧ q.2.1.length ≤ q.2.2 ∧ (∀ r ∈ q.2.1, 0 ≤ r.1 ∧ r.1 ≤ r.2 ∧ r.2 ≤ 1114111) ∧ z4d q.1 q.2.1 (rst s q.2.2) = T) (fun q => q.1) ?_ (n, [], (i + 2)) ⟨hj0, Nat.zero_le _, by simp, hT0⟩) rfl rfl
   rintro ⟨m, acc, j⟩ ⟨i1, i2, i3, i4⟩ ih
   simp only at i1 i2 i3 i4 ih ⊢
   cases m with
   | zero => rw [z4d] at i4; subst i4; exact absurd rfl hne
   | succ m =>
   have hnj := z4t (X := X) τ s j i1 0 0 (e0 + 1)
   rw [z4d] at i4
   by_cases hend : acc ≠ [] ∧ nx (rst s j) = 93
   · rw [if_pos hend] at i4
     have hacc : (acc.length : Int) ≠ 0 := by
      have := List.length_pos_iff.2 hend.1; omega
     obtain ⟨hjl, htj, hej⟩ := z2u i1 hend.2 (by decide) (by decide)
     rw [htj] at i4
     subst i4
     have hmg := zi2 acc (by omega) i3
     have hnl := zha acc
     have hnr := zhm i3
     rw [hend.2] at hnj
     have ho := znq (norm acc) (by omega) hnr
     by_cases h0 : (zjc 0 (norm acc)).length = 0
     · rw [show zku true (rst s i) (.ok acc (rst s (j + 1))) = .err (rst s i) 1 by rw [zku, if_pos rfl, zol, if_pos h0], z5o hi]
       have hf := z5v (X := X) s (I .i64 ((j + 1 : Nat) : Int)) (i : Nat) 1 (e0 + 1) (by decide)
       repeat' (first | (apply z0e; (first | refine z13 rfl (by decide) ?_ | (apply z09; (refine z14 rfl (z05 _ (e0, X) _) rfl rfl rfl rfl (by decide) ?_)) | (apply z08; (refine z00 (z03 rfl rfl) rfl rfl (by decide) ?_)) | (apply z19; (refine z00 (z1e (z1s (by omega) (by omega))) rfl rfl (by decide) ?_)) | (apply z1k; (first | refine z00 (z1p rfl) rfl rfl (by decide) ?_ | refine z00 (z2k rfl) rfl rfl (by decide) ?_)) | (apply z0l; (first | refine z34 hf rfl (z05 _ (e0, X) _) (by decide) ?_ | refine z15 hnj rfl (z0s (m := (e0 + 1, X)) (z05 _ (e0, X) _) (bkT (by repeat (first | exact hT | refine HT.upd ?_ hX0 hX1)))) (by decide) ?_ | refine z6w hmg rfl rfl (by decide) ?_ | refine z1z ho rfl (by decide) ?_)) | (apply z0i; (first | refine z18 (raw' := pbx s ((j + 1 : Nat) : Int) 0 0) rfl (z05 _ (e0, X) _) rfl rfl rfl rfl rfl rfl ?_ | refine z0b rfl rfl rfl rfl rfl rfl ?_)) | (apply z1i; (refine z1j rfl rfl rfl rfl rfl rfl rfl (by decide) ?_)))) | (apply z0f; (first | refine z0z ?_ | apply z0c | refine z2e rfl rfl (by decide) ?_ | refine z0u rfl rfl (fun _ => ?_) (fun _ => ?_))) | (apply z0d; (first | apply z0h | apply z01 | refine z0o rfl ?_ | refine z0g rfl ?_ | apply z06 | apply z02 | refine z1o rfl (fun _ => ?_) (fun _ => ?_) | refine z0r rfl ?_)))
       all_goals try (exfalso; omega)
       all_goals ((repeat rw [z0x]); refine z5g wkP ?_; first | exact z07 Tryz.func84 _ (z0m rfl rfl rfl rfl rfl rfl rfl) ⟨rfl, rfl⟩ | exact z07 Tryz.func84 _ (z1h rfl rfl rfl) ⟨rfl, rfl⟩ | exact z07 Tryz.func84 _ (z0a rfl rfl) ⟨rfl, rfl⟩ | exact z07 Tryz.func84 _ (z11 rfl rfl rfl rfl) ⟨rfl, rfl⟩)
     · rw [show zku true (rst s i) (.ok acc (rst s (j + 1))) = .ok (zho (zol acc)) (rst s (j + 1)) by rw [zku, if_pos rfl]; rw [zol, if_neg h0], z4k hjl]
       repeat' (first | (apply z0e; (first | refine z13 rfl (by decide) ?_ | (apply z09; (refine z14 rfl (z05 _ (e0, X) _) rfl rfl rfl rfl (by decide) ?_)) | (apply z08; (refine z00 (z03 rfl rfl) rfl rfl (by decide) ?_)) | (apply z19; (refine z00 (z1e (z1s (by omega) (by omega))) rfl rfl (by decide) ?_)) | (apply z1k; (first | refine z00 (z1p rfl) rfl rfl (by decide) ?_ | refine z00 (z2k rfl) rfl rfl (by decide) ?_)) | (apply z0l; (first | refine z15 hnj rfl (z0s (m := (e0 + 1, X)) (z05 _ (e0, X) _) (bkT (by repeat (first | exact hT | refine HT.upd ?_ hX0 hX1)))) (by decide) ?_ | refine z6w hmg rfl rfl (by decide) ?_ | refine z1z ho rfl (by decide) ?_)) | (apply z0i; (first | refine z18 (raw' := pbx s ((j + 1 : Nat) : Int) 0 0) rfl (z05 _ (e0, X) _) rfl rfl rfl rfl rfl rfl ?_ | refine z0b rfl rfl rfl rfl rfl rfl ?_)) | (apply z1i; (refine z1j rfl rfl rfl rfl rfl rfl rfl (by decide) ?_)))) | (apply z0f; (first | refine z0z ?_ | apply z0c | refine z2e rfl rfl (by decide) ?_ | refine z0u rfl rfl (fun _ => ?_) (fun _ => ?_))) | (apply z0d; (first | apply z0h | apply z01 | refine z0o rfl ?_ | refine z0g rfl ?_ | apply z06 | apply z02 | refine z1o rfl (fun _ => ?_) (fun _ => ?_) | refine z0r rfl ?_)))
       all_goals try (exfalso; omega)
       all_goals ((repeat rw [z0x]); first | exact z07 Tryz.func84 _ (z0m rfl rfl rfl rfl rfl rfl rfl) ⟨rfl, rfl⟩ | exact z07 Tryz.func84 _ (z1h rfl rfl rfl) ⟨rfl, rfl⟩ | exact z07 Tryz.func84 _ (z0a rfl rfl) ⟨rfl, rfl⟩ | exact z07 Tryz.func84 _ (z11 rfl rfl rfl rfl) ⟨rfl, rfl⟩)
   · rw [if_neg hend] at i4
     have hm := zay hX0 hX1 τ s hs j i1 (e0 + 1)
     have hnd : acc.length ≠ 0 → nx (rst s j) ≠ 93 := fun h h2 => hend ⟨fun h3 => h (by rw [h3]; rfl), h2⟩
     rcases hp : z8l spC (rst s j) with ⟨a, r⟩ | ⟨a, e⟩ | _
     · obtain ⟨⟨ha0, ha1⟩, j1, hj1, hj1s, rfl⟩ := zdh i1 hp
       rw [hp, z4k hj1s] at hm
       have hn2 := z4t (X := X) τ s j1 hj1s 0 0 (e0 + 1)
       by_cases h45 : nx (rst s j1) = 45
       · obtain ⟨hjl, htj, hej⟩ := z2u hj1s h45 (by decide) (by decide)
         have hm2 := zay hX0 hX1 τ s hs (j1 + 1) hjl (e0 + 1)
         rcases hp2 : z8l spC (rst s (j1 + 1)) with ⟨b, r⟩ | ⟨b, e⟩ | _
         · obtain ⟨⟨hb0, hb1⟩, j2, hj2, hj2s, rfl⟩ := zdh hjl hp2
           rw [hp2, z4k hj2s] at hm2
           by_cases hba : b < a
           · have hpr : z8n (rst s j) = .err (rst s j) 8 := by
              rw [z8n, hp]; simp only
              rw [if_pos h45, htj, hp2]; simp only
              rw [if_pos hba]
             rw [hpr] at i4
             subst i4
             rw [zku, z5o i1]
             have hf := z5v (X := X) s (I .i64 (j2 : Nat)) (j : Nat) 8 (e0 + 1) (by decide)
             repeat' (first | (apply z0e; (first | refine z13 rfl (by decide) ?_ | (apply z09; (refine z14 rfl (z05 _ (e0, X) _) rfl rfl rfl rfl (by decide) ?_)) | (apply z08; (refine z00 (z03 rfl rfl) rfl rfl (by decide) ?_)) | (apply z19; (refine z00 (z1e (z1s (by omega) (by omega))) rfl rfl (by decide) ?_)) | (apply z1k; (refine z00 (z2k rfl) rfl rfl (by decide) ?_)) | (apply z0l; (first | refine z34 hf rfl (z05 _ (e0, X) _) (by decide) ?_ | refine z1l hm2 rfl (z05 _ (e0, X) _) (bkT (by repeat (first | exact hT | refine HT.upd ?_ hX0 hX1))) (by decide) ?_ | refine z1l hm rfl (z05 _ (e0, X) _) (bkT (by repeat (first | exact hT | refine HT.upd ?_ hX0 hX1))) (by decide) ?_ | refine z15 hn2 rfl (z0s (m := (e0 + 1, X)) (z05 _ (e0, X) _) (bkT (by repeat (first | exact hT | refine HT.upd ?_ hX0 hX1)))) (by decide) ?_ | refine z15 hnj rfl (z0s (m := (e0 + 1, X)) (z05 _ (e0, X) _) (bkT (by repeat (first | exact hT | refine HT.upd ?_ hX0 hX1)))) (by decide) ?_)) | (apply z0i; (first | refine z18 (raw' := pbx s ((j1 + 1 : Nat) : Int) 0 0) rfl (z05 _ (e0, X) _) rfl rfl rfl rfl rfl rfl ?_ | refine z0b rfl rfl rfl rfl rfl rfl ?_)) | (apply z1i; (refine z1j rfl rfl rfl rfl rfl rfl rfl (by decide) ?_)) | (apply z3p; (refine z3n rfl rfl rfl rfl rfl rfl rfl rfl (by decide) ?_)))) | (apply z0f; (first | refine z0z ?_ | apply z0c | refine z2e rfl rfl (by decide) ?_ | refine z0u rfl rfl (fun _ => ?_) (fun _ => ?_))) | (apply z0d; (first | apply z0h | apply z01 | refine z0o rfl ?_ | refine z0g rfl ?_ | apply z06 | apply z02 | refine z1o rfl (fun _ => ?_) (fun _ => ?_) | refine z2w rfl (fun _ => ?_) (fun _ => ?_) | refine z0r rfl ?_)))
             all_goals try (exfalso; omega)
             all_goals ((repeat rw [z0x]); refine z5g wkP ?_; first | exact z07 Tryz.func84 _ (z0m rfl rfl rfl rfl rfl rfl rfl) ⟨rfl, rfl⟩ | exact z07 Tryz.func84 _ (z1h rfl rfl rfl) ⟨rfl, rfl⟩ | exact z07 Tryz.func84 _ (z0a rfl rfl) ⟨rfl, rfl⟩ | exact z07 Tryz.func84 _ (z11 rfl rfl rfl rfl) ⟨rfl, rfl⟩)
           · have hpr : z8n (rst s j) = .ok (a, b) (rst s j2) := by
              rw [z8n, hp]; simp only
              rw [if_pos h45, htj, hp2]; simp only
              rw [if_neg hba]
             rw [hpr] at i4
             simp only at i4
             repeat' (first | (apply z0e; (first | refine z13 rfl (by decide) ?_ | (apply z09; (refine z14 rfl (z05 _ (e0, X) _) rfl rfl rfl rfl (by decide) ?_)) | (apply z08; (refine z00 (z03 rfl rfl) rfl rfl (by decide) ?_)) | (apply z19; (refine z00 (z1e (z1s (by omega) (by omega))) rfl rfl (by decide) ?_)) | (apply z1k; (first | refine z4s (g := rgc) rfl rfl (a, b) rfl rfl rfl rfl rfl rfl rfl (by decide) (by omega) ?_ | refine z00 (z2k rfl) rfl rfl (by decide) ?_)) | (apply z0l; (first | refine z1l hm2 rfl (z05 _ (e0, X) _) (bkT (by repeat (first | exact hT | refine HT.upd ?_ hX0 hX1))) (by decide) ?_ | refine z1l hm rfl (z05 _ (e0, X) _) (bkT (by repeat (first | exact hT | refine HT.upd ?_ hX0 hX1))) (by decide) ?_ | refine z15 hn2 rfl (z0s (m := (e0 + 1, X)) (z05 _ (e0, X) _) (bkT (by repeat (first | exact hT | refine HT.upd ?_ hX0 hX1)))) (by decide) ?_ | refine z15 hnj rfl (z0s (m := (e0 + 1, X)) (z05 _ (e0, X) _) (bkT (by repeat (first | exact hT | refine HT.upd ?_ hX0 hX1)))) (by decide) ?_)) | (apply z0i; (refine z18 (raw' := pbx s ((j1 + 1 : Nat) : Int) 0 0) rfl (z05 _ (e0, X) _) rfl rfl rfl rfl rfl rfl ?_)) | (apply z1i; (refine z1j rfl rfl rfl rfl rfl rfl rfl (by decide) ?_)) | (apply z3p; (refine z3n rfl rfl rfl rfl rfl rfl rfl rfl (by decide) ?_)))) | (apply z0f; (first | refine z0z ?_ | apply z0c | refine z2e rfl rfl (by decide) ?_ | refine z0u rfl rfl (fun _ => ?_) (fun _ => ?_))) | (apply z0d; (first | apply z0h | apply z01 | refine z0o rfl ?_ | refine z0g rfl ?_ | apply z06 | apply z02 | apply z04 | refine z1o rfl (fun _ => ?_) (fun _ => ?_) | refine z2w rfl (fun _ => ?_) (fun _ => ?_) | refine z0r rfl ?_)))
             all_goals try (exfalso; omega)
             all_goals (refine z73 86 1000 rfl rfl ?_; (repeat rw [z0x]); exact z0y (ih (m, acc ++ [(a, b)], j2) ⟨hj2s, by simp only [List.length_append, List.length_singleton]; omega, fun r hr => by
              rw [List.mem_append, List.mem_singleton] at hr
              rcases hr with hr | rfl
              · exact i3 r hr
              · simp only; omega, i4⟩ (by simp only; omega)) rfl rfl)
         · rw [hp2] at hm2
           have hpr : z8n (rst s j) = .err b e := by
            rw [z8n, hp]; simp only
            rw [if_pos h45, htj, hp2]
           rw [hpr] at i4
           subst i4
           repeat' (first | (apply z0e; (first | refine z13 rfl (by decide) ?_ | (apply z09; (refine z14 rfl (z05 _ (e0, X) _) rfl rfl rfl rfl (by decide) ?_)) | (apply z08; (refine z00 (z03 rfl rfl) rfl rfl (by decide) ?_)) | (apply z19; (refine z00 (z1e (z1s (by omega) (by omega))) rfl rfl (by decide) ?_)) | (apply z1k; (refine z00 (z2k rfl) rfl rfl (by decide) ?_)) | (apply z0l; (first | refine z1l hm2 rfl (z05 _ (e0, X) _) (bkT (by repeat (first | exact hT | refine HT.upd ?_ hX0 hX1))) (by decide) ?_ | refine z1l hm rfl (z05 _ (e0, X) _) (bkT (by repeat (first | exact hT | refine HT.upd ?_ hX0 hX1))) (by decide) ?_ | refine z15 hn2 rfl (z0s (m := (e0 + 1, X)) (z05 _ (e0, X) _) (bkT (by repeat (first | exact hT | refine HT.upd ?_ hX0 hX1)))) (by decide) ?_ | refine z15 hnj rfl (z0s (m := (e0 + 1, X)) (z05 _ (e0, X) _) (bkT (by repeat (first | exact hT | refine HT.upd ?_ hX0 hX1)))) (by decide) ?_)) | (apply z0i; (first | refine z18 (raw' := pbx s ((j1 + 1 : Nat) : Int) 0 0) rfl (z05 _ (e0, X) _) rfl rfl rfl rfl rfl rfl ?_ | refine z0b rfl rfl rfl rfl rfl rfl ?_)) | (apply z1i; (refine z1j rfl rfl rfl rfl rfl rfl rfl (by decide) ?_)) | (apply z3p; (refine z3n rfl rfl rfl rfl rfl rfl rfl rfl (by decide) ?_)))) | (apply z0f; (first | refine z0z ?_ | apply z0c | refine z2e rfl rfl (by decide) ?_ | refine z0u rfl rfl (fun _ => ?_) (fun _ => ?_))) | (apply z0d; (first | apply z0h | apply z01 | refine z0o rfl ?_ | refine z0g rfl ?_ | apply z06 | apply z02 | refine z1o rfl (fun _ => ?_) (fun _ => ?_) | refine z2w rfl (fun _ => ?_) (fun _ => ?_) | refine z0r rfl ?_)))
           all_goals try (exfalso; omega)
           all_goals ((repeat rw [z0x]); first | exact z07 Tryz.func84 _ (z0m rfl rfl rfl rfl rfl rfl rfl) ⟨rfl, rfl⟩ | exact z07 Tryz.func84 _ (z1h rfl rfl rfl) ⟨rfl, rfl⟩ | exact z07 Tryz.func84 _ (z0a rfl rfl) ⟨rfl, rfl⟩ | exact z07 Tryz.func84 _ (z11 rfl rfl rfl rfl) ⟨rfl, rfl⟩)
         · exact absurd hp2 z95
       · have hpr : z8n (rst s j) = .ok (a, a) (rst s j1) := by
          rw [z8n, hp]; simp only
          rw [if_neg h45]
         rw [hpr] at i4
         simp only at i4
         repeat' (first | (apply z0e; (first | refine z13 rfl (by decide) ?_ | (apply z09; (refine z14 rfl (z05 _ (e0, X) _) rfl rfl rfl rfl (by decide) ?_)) | (apply z08; (refine z00 (z03 rfl rfl) rfl rfl (by decide) ?_)) | (apply z19; (refine z00 (z1e (z1s (by omega) (by omega))) rfl rfl (by decide) ?_)) | (apply z1k; (first | refine z4s (g := rgc) rfl rfl (a, a) rfl rfl rfl rfl rfl rfl rfl (by decide) (by omega) ?_ | refine z00 (z2k rfl) rfl rfl (by decide) ?_)) | (apply z0l; (first | refine z1l hm rfl (z05 _ (e0, X) _) (bkT (by repeat (first | exact hT | refine HT.upd ?_ hX0 hX1))) (by decide) ?_ | refine z15 hn2 rfl (z0s (m := (e0 + 1, X)) (z05 _ (e0, X) _) (bkT (by repeat (first | exact hT | refine HT.upd ?_ hX0 hX1)))) (by decide) ?_ | refine z15 hnj rfl (z0s (m := (e0 + 1, X)) (z05 _ (e0, X) _) (bkT (by repeat (first | exact hT | refine HT.upd ?_ hX0 hX1)))) (by decide) ?_)) | (apply z1i; (refine z1j rfl rfl rfl rfl rfl rfl rfl (by decide) ?_)) | (apply z3p; (refine z3n rfl rfl rfl rfl rfl rfl rfl rfl (by decide) ?_)))) | (apply z0f; (first | refine z0z ?_ | apply z0c | refine z2e rfl rfl (by decide) ?_ | refine z0u rfl rfl (fun _ => ?_) (fun _ => ?_))) | (apply z0d; (first | apply z0h | apply z01 | refine z0o rfl ?_ | refine z0g rfl ?_ | apply z06 | apply z02 | apply z04 | refine z1o rfl (fun _ => ?_) (fun _ => ?_) | refine z2w rfl (fun _ => ?_) (fun _ => ?_) | refine z0r rfl ?_)))
         all_goals try (exfalso; omega)
         all_goals (refine z73 86 1000 rfl rfl ?_; (repeat rw [z0x]); exact z0y (ih (m, acc ++ [(a, a)], j1) ⟨hj1s, by simp only [List.length_append, List.length_singleton]; omega, fun r hr => by
          rw [List.mem_append, List.mem_singleton] at hr
          rcases hr with hr | rfl
          · exact i3 r hr
          · simp only; omega, i4⟩ (by simp only; omega)) rfl rfl)
     · rw [hp] at hm
       have hpr : z8n (rst s j) = .err a e := by rw [z8n, hp]
       rw [hpr] at i4
       subst i4
       repeat' (first | (apply z0e; (first | refine z13 rfl (by decide) ?_ | (apply z09; (refine z14 rfl (z05 _ (e0, X) _) rfl rfl rfl rfl (by decide) ?_)) | (apply z08; (refine z00 (z03 rfl rfl) rfl rfl (by decide) ?_)) | (apply z19; (refine z00 (z1e (z1s (by omega) (by omega))) rfl rfl (by decide) ?_)) | (apply z1k; (refine z00 (z2k rfl) rfl rfl (by decide) ?_)) | (apply z0l; (first | refine z1l hm rfl (z05 _ (e0, X) _) (bkT (by repeat (first | exact hT | refine HT.upd ?_ hX0 hX1))) (by decide) ?_ | refine z15 hnj rfl (z0s (m := (e0 + 1, X)) (z05 _ (e0, X) _) (bkT (by repeat (first | exact hT | refine HT.upd ?_ hX0 hX1)))) (by decide) ?_)) | (apply z0i; (refine z0b rfl rfl rfl rfl rfl rfl ?_)) | (apply z1i; (refine z1j rfl rfl rfl rfl rfl rfl rfl (by decide) ?_)))) | (apply z0f; (first | refine z0z ?_ | apply z0c | refine z2e rfl rfl (by decide) ?_ | refine z0u rfl rfl (fun _ => ?_) (fun _ => ?_))) | (apply z0d; (first | apply z0h | apply z01 | refine z0o rfl ?_ | refine z0g rfl ?_ | apply z06 | apply z02 | refine z2w rfl (fun _ => ?_) (fun _ => ?_) | refine z0r rfl ?_)))
       all_goals try (exfalso; omega)
       all_goals ((repeat rw [z0x]); first | exact z07 Tryz.func84 _ (z0m rfl rfl rfl rfl rfl rfl rfl) ⟨rfl, rfl⟩ | exact z07 Tryz.func84 _ (z1h rfl rfl rfl) ⟨rfl, rfl⟩ | exact z07 Tryz.func84 _ (z0a rfl rfl) ⟨rfl, rfl⟩ | exact z07 Tryz.func84 _ (z11 rfl rfl rfl rfl) ⟨rfl, rfl⟩)
     · exact absurd hp z95
 · have hq : ze7 n (rst s i) = zku false (rst s i) (z4d n [] (rst s (i + 1))) := by rw [zud (by rw [ht]; exact hng), ht]
   have hj0 : i + 1 ≤ s.size := hlt
   obtain ⟨T, hT0⟩ : ∃ T, z4d n [] (rst s (i + 1)) = T := ⟨_, rfl⟩
   rw [hT0] at hq
   rw [hq] at hne ⊢
   repeat' (first | (apply z0e; (first | refine z13 rfl (by decide) ?_ | (apply z09; (first | refine z14 rfl (z05 _ (e0, X) _) rfl rfl rfl rfl (by decide) ?_ | refine z14 rfl hX rfl rfl rfl rfl (by decide) ?_)) | (apply z08; (refine z00 (z03 rfl rfl) rfl rfl (by decide) ?_)) | (apply z19; (refine z00 (z1e (z1s (by omega) (by omega))) rfl rfl (by decide) ?_)) | (apply z0l; (refine z15 hn1 rfl (z0s (m := (e0 + 1, X)) (z05 _ (e0, X) _) (bkT (by repeat (first | exact hT | refine HT.upd ?_ hX0 hX1)))) (by decide) ?_)) | (apply z0i; (first | refine z18 (raw' := pbx s ((i + 2 : Nat) : Int) 0 0) rfl (z05 _ (e0, X) _) rfl rfl rfl rfl rfl rfl ?_ | refine z18 (raw' := pbx s ((i + 1 : Nat) : Int) 0 0) rfl hX rfl rfl rfl rfl rfl rfl ?_)) | (apply z0q; (refine z0j (z0p rfl rfl (by decide)) ?_)))) | (apply z0f; (first | refine z0z ?_ | apply z0c)) | (apply z0d; (first | apply z0h | apply z01 | apply z06 | apply z02 | refine z1o rfl (fun _ => ?_) (fun _ => ?_))))
   all_goals try (exfalso; omega)
   rw [decide_eq_false hng]
   refine z4l 6 1000 52 2 rfl rfl rfl ?_
   refine z2b ?_
   refine z0y (z3e (fun q : Nat × List Rg × Nat => ⟨108, [(0, .ptr (e0 + 1, X) 0), (2, .ptr (0, 2) 0), (4, I .i64 (i : Nat)), (5, B false), (6, .ref (0, 1000))], [(1000, .row 52 2 (q.2.1.map rgc)), (2, .box (z6l [Value.int .i64 0, Value.int .i64 0, Value.int .i64 0, z57, z57]))], upd H (e0, X) (pbx s (q.2.2 : Nat) 0 0)⟩)
    (fun q => q.2.2 ≤ s.size ∧ q.2.1.length ≤ q.2.2 ∧ (∀ r ∈ q.2.1, 0 ≤ r.1 ∧ r.1 ≤ r.2 ∧ r.2 ≤ 1114111) ∧ z4d q.1 q.2.1 (rst s q.2.2) = T) (fun q => q.1) ?_ (n, [], (i + 1)) ⟨hj0, Nat.zero_le _, by simp, hT0⟩) rfl rfl
   rintro ⟨m, acc, j⟩ ⟨i1, i2, i3, i4⟩ ih
   simp only at i1 i2 i3 i4 ih ⊢
   cases m with
   | zero => rw [z4d] at i4; subst i4; exact absurd rfl hne
   | succ m =>
   have hnj := z4t (X := X) τ s j i1 0 0 (e0 + 1)
   rw [z4d] at i4
   by_cases hend : acc ≠ [] ∧ nx (rst s j) = 93
   · rw [if_pos hend] at i4
     have hacc : (acc.length : Int) ≠ 0 := by
      have := List.length_pos_iff.2 hend.1; omega
     obtain ⟨hjl, htj, hej⟩ := z2u i1 hend.2 (by decide) (by decide)
     rw [htj] at i4
     subst i4
     have hmg := zi2 acc (by omega) i3
     have hnl := zha acc
     have hnr := zhm i3
     rw [hend.2] at hnj
     rw [show zku false (rst s i) (.ok acc (rst s (j + 1))) = .ok (zho (norm acc)) (rst s (j + 1)) from rfl, z4k hjl]
     repeat' (first | (apply z0e; (first | refine z13 rfl (by decide) ?_ | (apply z09; (refine z14 rfl (z05 _ (e0, X) _) rfl rfl rfl rfl (by decide) ?_)) | (apply z08; (refine z00 (z03 rfl rfl) rfl rfl (by decide) ?_)) | (apply z19; (refine z00 (z1e (z1s (by omega) (by omega))) rfl rfl (by decide) ?_)) | (apply z1k; (refine z00 (z2k rfl) rfl rfl (by decide) ?_)) | (apply z0l; (first | refine z15 hnj rfl (z0s (m := (e0 + 1, X)) (z05 _ (e0, X) _) (bkT (by repeat (first | exact hT | refine HT.upd ?_ hX0 hX1)))) (by decide) ?_ | refine z6w hmg rfl rfl (by decide) ?_)) | (apply z0i; (first | refine z18 (raw' := pbx s ((j + 1 : Nat) : Int) 0 0) rfl (z05 _ (e0, X) _) rfl rfl rfl rfl rfl rfl ?_ | refine z0b rfl rfl rfl rfl rfl rfl ?_)) | (apply z1i; (refine z1j rfl rfl rfl rfl rfl rfl rfl (by decide) ?_)))) | (apply z0f; (first | refine z0z ?_ | apply z0c | refine z2e rfl rfl (by decide) ?_ | refine z0u rfl rfl (fun _ => ?_) (fun _ => ?_))) | (apply z0d; (first | apply z0h | apply z01 | refine z0o rfl ?_ | refine z0g rfl ?_ | apply z06 | apply z02 | refine z0r rfl ?_)))
     all_goals try (exfalso; omega)
     all_goals ((repeat rw [z0x]); first | exact z07 Tryz.func84 _ (z0m rfl rfl rfl rfl rfl rfl rfl) ⟨rfl, rfl⟩ | exact z07 Tryz.func84 _ (z1h rfl rfl rfl) ⟨rfl, rfl⟩ | exact z07 Tryz.func84 _ (z0a rfl rfl) ⟨rfl, rfl⟩ | exact z07 Tryz.func84 _ (z11 rfl rfl rfl rfl) ⟨rfl, rfl⟩)
   · rw [if_neg hend] at i4
     have hm := zay hX0 hX1 τ s hs j i1 (e0 + 1)
     have hnd : acc.length ≠ 0 → nx (rst s j) ≠ 93 := fun h h2 => hend ⟨fun h3 => h (by rw [h3]; rfl), h2⟩
     rcases hp : z8l spC (rst s j) with ⟨a, r⟩ | ⟨a, e⟩ | _
     · obtain ⟨⟨ha0, ha1⟩, j1, hj1, hj1s, rfl⟩ := zdh i1 hp
       rw [hp, z4k hj1s] at hm
       have hn2 := z4t (X := X) τ s j1 hj1s 0 0 (e0 + 1)
       by_cases h45 : nx (rst s j1) = 45
       · obtain ⟨hjl, htj, hej⟩ := z2u hj1s h45 (by decide) (by decide)
         have hm2 := zay hX0 hX1 τ s hs (j1 + 1) hjl (e0 + 1)
         rcases hp2 : z8l spC (rst s (j1 + 1)) with ⟨b, r⟩ | ⟨b, e⟩ | _
         · obtain ⟨⟨hb0, hb1⟩, j2, hj2, hj2s, rfl⟩ := zdh hjl hp2
           rw [hp2, z4k hj2s] at hm2
           by_cases hba : b < a
           · have hpr : z8n (rst s j) = .err (rst s j) 8 := by
              rw [z8n, hp]; simp only
              rw [if_pos h45, htj, hp2]; simp only
              rw [if_pos hba]
             rw [hpr] at i4
             subst i4
             rw [zku, z5o i1]
             have hf := z5v (X := X) s (I .i64 (j2 : Nat)) (j : Nat) 8 (e0 + 1) (by decide)
             repeat' (first | (apply z0e; (first | refine z13 rfl (by decide) ?_ | (apply z09; (refine z14 rfl (z05 _ (e0, X) _) rfl rfl rfl rfl (by decide) ?_)) | (apply z08; (refine z00 (z03 rfl rfl) rfl rfl (by decide) ?_)) | (apply z19; (refine z00 (z1e (z1s (by omega) (by omega))) rfl rfl (by decide) ?_)) | (apply z1k; (refine z00 (z2k rfl) rfl rfl (by decide) ?_)) | (apply z0l; (first | refine z34 hf rfl (z05 _ (e0, X) _) (by decide) ?_ | refine z1l hm2 rfl (z05 _ (e0, X) _) (bkT (by repeat (first | exact hT | refine HT.upd ?_ hX0 hX1))) (by decide) ?_ | refine z1l hm rfl (z05 _ (e0, X) _) (bkT (by repeat (first | exact hT | refine HT.upd ?_ hX0 hX1))) (by decide) ?_ | refine z15 hn2 rfl (z0s (m := (e0 + 1, X)) (z05 _ (e0, X) _) (bkT (by repeat (first | exact hT | refine HT.upd ?_ hX0 hX1)))) (by decide) ?_ | refine z15 hnj rfl (z0s (m := (e0 + 1, X)) (z05 _ (e0, X) _) (bkT (by repeat (first | exact hT | refine HT.upd ?_ hX0 hX1)))) (by decide) ?_)) | (apply z0i; (first | refine z18 (raw' := pbx s ((j1 + 1 : Nat) : Int) 0 0) rfl (z05 _ (e0, X) _) rfl rfl rfl rfl rfl rfl ?_ | refine z0b rfl rfl rfl rfl rfl rfl ?_)) | (apply z1i; (refine z1j rfl rfl rfl rfl rfl rfl rfl (by decide) ?_)) | (apply z3p; (refine z3n rfl rfl rfl rfl rfl rfl rfl rfl (by decide) ?_)))) | (apply z0f; (first | refine z0z ?_ | apply z0c | refine z2e rfl rfl (by decide) ?_ | refine z0u rfl rfl (fun _ => ?_) (fun _ => ?_))) | (apply z0d; (first | apply z0h | apply z01 | refine z0o rfl ?_ | refine z0g rfl ?_ | apply z06 | apply z02 | refine z1o rfl (fun _ => ?_) (fun _ => ?_) | refine z2w rfl (fun _ => ?_) (fun _ => ?_) | refine z0r rfl ?_)))
             all_goals try (exfalso; omega)
             all_goals ((repeat rw [z0x]); refine z5g wkP ?_; first | exact z07 Tryz.func84 _ (z0m rfl rfl rfl rfl rfl rfl rfl) ⟨rfl, rfl⟩ | exact z07 Tryz.func84 _ (z1h rfl rfl rfl) ⟨rfl, rfl⟩ | exact z07 Tryz.func84 _ (z0a rfl rfl) ⟨rfl, rfl⟩ | exact z07 Tryz.func84 _ (z11 rfl rfl rfl rfl) ⟨rfl, rfl⟩)
           · have hpr : z8n (rst s j) = .ok (a, b) (rst s j2) := by
              rw [z8n, hp]; simp only
              rw [if_pos h45, htj, hp2]; simp only
              rw [if_neg hba]
             rw [hpr] at i4
             simp only at i4
             repeat' (first | (apply z0e; (first | refine z13 rfl (by decide) ?_ | (apply z09; (refine z14 rfl (z05 _ (e0, X) _) rfl rfl rfl rfl (by decide) ?_)) | (apply z08; (refine z00 (z03 rfl rfl) rfl rfl (by decide) ?_)) | (apply z19; (refine z00 (z1e (z1s (by omega) (by omega))) rfl rfl (by decide) ?_)) | (apply z1k; (first | refine z4s (g := rgc) rfl rfl (a, b) rfl rfl rfl rfl rfl rfl rfl (by decide) (by omega) ?_ | refine z00 (z2k rfl) rfl rfl (by decide) ?_)) | (apply z0l; (first | refine z1l hm2 rfl (z05 _ (e0, X) _) (bkT (by repeat (first | exact hT | refine HT.upd ?_ hX0 hX1))) (by decide) ?_ | refine z1l hm rfl (z05 _ (e0, X) _) (bkT (by repeat (first | exact hT | refine HT.upd ?_ hX0 hX1))) (by decide) ?_ | refine z15 hn2 rfl (z0s (m := (e0 + 1, X)) (z05 _ (e0, X) _) (bkT (by repeat (first | exact hT | refine HT.upd ?_ hX0 hX1)))) (by decide) ?_ | refine z15 hnj rfl (z0s (m := (e0 + 1, X)) (z05 _ (e0, X) _) (bkT (by repeat (first | exact hT | refine HT.upd ?_ hX0 hX1)))) (by decide) ?_)) | (apply z0i; (refine z18 (raw' := pbx s ((j1 + 1 : Nat) : Int) 0 0) rfl (z05 _ (e0, X) _) rfl rfl rfl rfl rfl rfl ?_)) | (apply z1i; (refine z1j rfl rfl rfl rfl rfl rfl rfl (by decide) ?_)) | (apply z3p; (refine z3n rfl rfl rfl rfl rfl rfl rfl rfl (by decide) ?_)))) | (apply z0f; (first | refine z0z ?_ | apply z0c | refine z2e rfl rfl (by decide) ?_ | refine z0u rfl rfl (fun _ => ?_) (fun _ => ?_))) | (apply z0d; (first | apply z0h | apply z01 | refine z0o rfl ?_ | refine z0g rfl ?_ | apply z06 | apply z02 | apply z04 | refine z1o rfl (fun _ => ?_) (fun _ => ?_) | refine z2w rfl (fun _ => ?_) (fun _ => ?_) | refine z0r rfl ?_)))
             all_goals try (exfalso; omega)
             all_goals (refine z73 86 1000 rfl rfl ?_; (repeat rw [z0x]); exact z0y (ih (m, acc ++ [(a, b)], j2) ⟨hj2s, by simp only [List.length_append, List.length_singleton]; omega, fun r hr => by
              rw [List.mem_append, List.mem_singleton] at hr
              rcases hr with hr | rfl
              · exact i3 r hr
              · simp only; omega, i4⟩ (by simp only; omega)) rfl rfl)
         · rw [hp2] at hm2
           have hpr : z8n (rst s j) = .err b e := by
            rw [z8n, hp]; simp only
            rw [if_pos h45, htj, hp2]
           rw [hpr] at i4
           subst i4
           repeat' (first | (apply z0e; (first | refine z13 rfl (by decide) ?_ | (apply z09; (refine z14 rfl (z05 _ (e0, X) _) rfl rfl rfl rfl (by decide) ?_)) | (apply z08; (refine z00 (z03 rfl rfl) rfl rfl (by decide) ?_)) | (apply z19; (refine z00 (z1e (z1s (by omega) (by omega))) rfl rfl (by decide) ?_)) | (apply z1k; (refine z00 (z2k rfl) rfl rfl (by decide) ?_)) | (apply z0l; (first | refine z1l hm2 rfl (z05 _ (e0, X) _) (bkT (by repeat (first | exact hT | refine HT.upd ?_ hX0 hX1))) (by decide) ?_ | refine z1l hm rfl (z05 _ (e0, X) _) (bkT (by repeat (first | exact hT | refine HT.upd ?_ hX0 hX1))) (by decide) ?_ | refine z15 hn2 rfl (z0s (m := (e0 + 1, X)) (z05 _ (e0, X) _) (bkT (by repeat (first | exact hT | refine HT.upd ?_ hX0 hX1)))) (by decide) ?_ | refine z15 hnj rfl (z0s (m := (e0 + 1, X)) (z05 _ (e0, X) _) (bkT (by repeat (first | exact hT | refine HT.upd ?_ hX0 hX1)))) (by decide) ?_)) | (apply z0i; (first | refine z18 (raw' := pbx s ((j1 + 1 : Nat) : Int) 0 0) rfl (z05 _ (e0, X) _) rfl rfl rfl rfl rfl rfl ?_ | refine z0b rfl rfl rfl rfl rfl rfl ?_)) | (apply z1i; (refine z1j rfl rfl rfl rfl rfl rfl rfl (by decide) ?_)) | (apply z3p; (refine z3n rfl rfl rfl rfl rfl rfl rfl rfl (by decide) ?_)))) | (apply z0f; (first | refine z0z ?_ | apply z0c | refine z2e rfl rfl (by decide) ?_ | refine z0u rfl rfl (fun _ => ?_) (fun _ => ?_))) | (apply z0d; (first | apply z0h | apply z01 | refine z0o rfl ?_ | refine z0g rfl ?_ | apply z06 | apply z02 | refine z1o rfl (fun _ => ?_) (fun _ => ?_) | refine z2w rfl (fun _ => ?_) (fun _ => ?_) | refine z0r rfl ?_)))
           all_goals try (exfalso; omega)
           all_goals ((repeat rw [z0x]); first | exact z07 Tryz.func84 _ (z0m rfl rfl rfl rfl rfl rfl rfl) ⟨rfl, rfl⟩ | exact z07 Tryz.func84 _ (z1h rfl rfl rfl) ⟨rfl, rfl⟩ | exact z07 Tryz.func84 _ (z0a rfl rfl) ⟨rfl, rfl⟩ | exact z07 Tryz.func84 _ (z11 rfl rfl rfl rfl) ⟨rfl, rfl⟩)
         · exact absurd hp2 z95
       · have hpr : z8n (rst s j) = .ok (a, a) (rst s j1) := by
          rw [z8n, hp]; simp only
          rw [if_neg h45]
         rw [hpr] at i4
         simp only at i4
         repeat' (first | (apply z0e; (first | refine z13 rfl (by decide) ?_ | (apply z09; (refine z14 rfl (z05 _ (e0, X) _) rfl rfl rfl rfl (by decide) ?_)) | (apply z08; (refine z00 (z03 rfl rfl) rfl rfl (by decide) ?_)) | (apply z19; (refine z00 (z1e (z1s (by omega) (by omega))) rfl rfl (by decide) ?_)) | (apply z1k; (first | refine z4s (g := rgc) rfl rfl (a, a) rfl rfl rfl rfl rfl rfl rfl (by decide) (by omega) ?_ | refine z00 (z2k rfl) rfl rfl (by decide) ?_)) | (apply z0l; (first | refine z1l hm rfl (z05 _ (e0, X) _) (bkT (by repeat (first | exact hT | refine HT.upd ?_ hX0 hX1))) (by decide) ?_ | refine z15 hn2 rfl (z0s (m := (e0 + 1, X)) (z05 _ (e0, X) _) (bkT (by repeat (first | exact hT | refine HT.upd ?_ hX0 hX1)))) (by decide) ?_ | refine z15 hnj rfl (z0s (m := (e0 + 1, X)) (z05 _ (e0, X) _) (bkT (by repeat (first | exact hT | refine HT.upd ?_ hX0 hX1)))) (by decide) ?_)) | (apply z1i; (refine z1j rfl rfl rfl rfl rfl rfl rfl (by decide) ?_)) | (apply z3p; (refine z3n rfl rfl rfl rfl rfl rfl rfl rfl (by decide) ?_)))) | (apply z0f; (first | refine z0z ?_ | apply z0c | refine z2e rfl rfl (by decide) ?_ | refine z0u rfl rfl (fun _ => ?_) (fun _ => ?_))) | (apply z0d; (first | apply z0h | apply z01 | refine z0o rfl ?_ | refine z0g rfl ?_ | apply z06 | apply z02 | apply z04 | refine z1o rfl (fun _ => ?_) (fun _ => ?_) | refine z2w rfl (fun _ => ?_) (fun _ => ?_) | refine z0r rfl ?_)))
         all_goals try (exfalso; omega)
         all_goals (refine z73 86 1000 rfl rfl ?_; (repeat rw [z0x]); exact z0y (ih (m, acc ++ [(a, a)], j1) ⟨hj1s, by simp only [List.length_append, List.length_singleton]; omega, fun r hr => by
          rw [List.mem_append, List.mem_singleton] at hr
          rcases hr with hr | rfl
          · exact i3 r hr
          · simp only; omega, i4⟩ (by simp only; omega)) rfl rfl)
     · rw [hp] at hm
       have hpr : z8n (rst s j) = .err a e := by rw [z8n, hp]
       rw [hpr] at i4
       subst i4
       repeat' (first | (apply z0e; (first | refine z13 rfl (by decide) ?_ | (apply z09; (refine z14 rfl (z05 _ (e0, X) _) rfl rfl rfl rfl (by decide) ?_)) | (apply z08; (refine z00 (z03 rfl rfl) rfl rfl (by decide) ?_)) | (apply z19; (refine z00 (z1e (z1s (by omega) (by omega))) rfl rfl (by decide) ?_)) | (apply z1k; (refine z00 (z2k rfl) rfl rfl (by decide) ?_)) | (apply z0l; (first | refine z1l hm rfl (z05 _ (e0, X) _) (bkT (by repeat (first | exact hT | refine HT.upd ?_ hX0 hX1))) (by decide) ?_ | refine z15 hnj rfl (z0s (m := (e0 + 1, X)) (z05 _ (e0, X) _) (bkT (by repeat (first | exact hT | refine HT.upd ?_ hX0 hX1)))) (by decide) ?_)) | (apply z0i; (refine z0b rfl rfl rfl rfl rfl rfl ?_)) | (apply z1i; (refine z1j rfl rfl rfl rfl rfl rfl rfl (by decide) ?_)))) | (apply z0f; (first | refine z0z ?_ | apply z0c | refine z2e rfl rfl (by decide) ?_ | refine z0u rfl rfl (fun _ => ?_) (fun _ => ?_))) | (apply z0d; (first | apply z0h | apply z01 | refine z0o rfl ?_ | refine z0g rfl ?_ | apply z06 | apply z02 | refine z2w rfl (fun _ => ?_) (fun _ => ?_) | refine z0r rfl ?_)))
       all_goals try (exfalso; omega)
       all_goals ((repeat rw [z0x]); first | exact z07 Tryz.func84 _ (z0m rfl rfl rfl rfl rfl rfl rfl) ⟨rfl, rfl⟩ | exact z07 Tryz.func84 _ (z1h rfl rfl rfl) ⟨rfl, rfl⟩ | exact z07 Tryz.func84 _ (z0a rfl rfl) ⟨rfl, rfl⟩ | exact z07 Tryz.func84 _ (z11 rfl rfl rfl rfl) ⟨rfl, rfl⟩)
     · exact absurd hp z95
end
end Go.Proofs.YtjmbjgecfpggdaaGreatDoor
namespace Go.Proofs.YtjmbjgecfpggdaaGreatDoor
open Go.Ab Go.Rx
set_option maxHeartbeats 20000000
set_option maxRecDepth 100000
attribute [local irreducible] Run Ops Op1 z2r Val Tr z1n z36 NF Rel z5q z5r
theorem zqz (a b : Int) : z1n Tryz.prog 83 [I .i32 a, I .i32 b] (.d (eX (Rx.one a b))) := by
 refine z1u fun H => ?_
 refine z16 Tryz.func83 (by kernel_rfl) rfl (by simp) ?_
 dsimp only [Tryz.f83]
 repeat' (first | (apply z0e; (first | refine z13 rfl (by decide) ?_ | (apply z0i; (refine z0b rfl rfl rfl rfl rfl rfl ?_)) | (apply z0q; (refine z0j (z0p rfl rfl (by decide)) ?_)) | (apply z1i; (refine z1j rfl rfl rfl rfl rfl rfl rfl (by decide) ?_)) | (apply z3p; (refine z3n rfl rfl rfl rfl rfl rfl rfl rfl (by decide) ?_)))) | (apply z0f; (first | refine z0z ?_ | apply z0c)) | (apply z0d; (first | apply z0h | apply z01)))
 all_goals try (exfalso; omega)
 exact z07 Tryz.func83 _ (z3g rfl rfl rfl rfl rfl rfl) ⟨rfl, rfl⟩
/-- what comes with an atom's error -/
def aE (n : Nat) (l : List U) : Rx :=
 if nx l = 40 then (match pU n [] l.tail with | .ok e _ => e | _ => zc8)
 else if nx l = 46 then zc8 else if nx l = 91 then zc8
 else if nx l ≠ 92 ∧ spA.contains (nx l) = true then zc8 else Rx.one 0 0
def rsA (n : Nat) (l : List U) : Rd Rx → PV
 | .ok a _ => .tup [.d (eX a), B true]
 | .err _ _ => .tup [.d (eX (aE n l)), B false]
 | .out => .any
theorem zic (a b : Int) : eX (Rx.one a b) = .agg [za9 1, za9 0, za9 0, rgs [(a, b)], .slice []] := rfl
theorem z4w : eX zc8 = .agg [za9 0, za9 0, za9 0, rgs [], .slice []] := rfl
theorem z65 (op mn mx : Int) (rs : List Rg) (ks : List Rx) : eX (.mk op mn mx rs ks) = .agg (rx5 op mn mx rs ks) := by rw [eX, z2j]
section
variable {X : Nat} (hX0 : X ≠ 700) (hX1 : X ≠ 701) (τ : Tab) (s : ByteArray) (hs : s.size ≤ 1000000)
def HU (X : Nat) (τ : Tab) (s : ByteArray) (N : Nat) : Prop := ∀ (i : Nat), i ≤ s.size → ∀ e0 : Nat, pU N [] (rst s i) ≠ .out →
 z36 Tryz.prog 15 [.ptr (e0, X) 0] (((e0, X), pbx s i 0 0) :: zd9 τ (e0 + 1)) [((e0, X), zja s (pU N [] (rst s i)))] (z8m eX (eX zc8) (pU N [] (rst s i)))
def HC (X : Nat) (τ : Tab) (s : ByteArray) (N : Nat) : Prop := ∀ (i : Nat), i ≤ s.size → ∀ e0 : Nat, pC N [] (rst s i) ≠ .out →
 z36 Tryz.prog 32 [.ptr (e0, X) 0] (((e0, X), pbx s i 0 0) :: zd9 τ (e0 + 1)) [((e0, X), zja s (pC N [] (rst s i)))] (z8m eX (eX zc8) (pC N [] (rst s i)))
def HR (X : Nat) (τ : Tab) (s : ByteArray) (N : Nat) : Prop := ∀ (i : Nat), i ≤ s.size → 0 ≤ nx (rst s i) → ∀ e0 : Nat, pR N (rst s i) ≠ .out →
 z36 Tryz.prog 51 [.ptr (e0, X) 0] (((e0, X), pbx s i 0 0) :: zd9 τ (e0 + 1)) [((e0, X), zja s (pR N (rst s i)))] (z8m eX (eX zc8) (pR N (rst s i)))
def HA (X : Nat) (τ : Tab) (s : ByteArray) (N : Nat) : Prop := ∀ (i : Nat), i ≤ s.size → 0 ≤ nx (rst s i) → ∀ e0 : Nat, pA (N + 1) (rst s i) ≠ .out →
 z36 Tryz.prog 68 [.ptr (e0, X) 0] (((e0, X), pbx s i 0 0) :: zd9 τ (e0 + 1)) [((e0, X), zja s (pA (N + 1) (rst s i)))] (rsA N (rst s i) (pA (N + 1) (rst s i)))
include hX0 hX1 hs
theorem zu0 (N : Nat) (hU : HU X τ s N) : HA X τ s N := by
 intro i hi hnx e0 hne
 refine z42 fun H hH => ?_
 have hX : H e0 X = some (pbx s i 0 0) := hH ((e0, X), pbx s i 0 0) (by simp)
 have hT : HT τ (e0 + 1) H := HT.of (bs := [((e0, X), pbx s i 0 0)]) hH
 refine z16 Tryz.func68 (by kernel_rfl) rfl (by simp) ?_
 dsimp only [Tryz.f68]
 have hn := z4t (X := X) τ s i hi 0 0 (e0 + 1)
 rw [pA] at hne ⊢
 by_cases h40 : nx (rst s i) = 40
 · obtain ⟨hlt, ht, he⟩ := z2u hi h40 (by decide) (by decide)
   rw [if_pos h40, ht] at hne ⊢
   have hu := hU (i + 1) hlt (e0 + 1) (fun h => hne (by rw [h]))
   have haE : aE N (rst s i) = (match pU N [] (rst s (i + 1)) with | .ok e _ => e | _ => zc8) := by rw [aE, if_pos h40, ht]
   have hsf := (zdi N).1 [] (rst s (i + 1))
   rw [h40] at hn
   rcases hp : pU N [] (rst s (i + 1)) with ⟨e, r⟩ | ⟨a, b⟩ | _
   · rw [hp] at hu hsf haE
     obtain ⟨j, hj1, hj, rfl⟩ := z5p s _ (i + 1) r (Nat.le_refl _) hlt hsf
     rw [z4k hj] at hu
     simp only at haE
     obtain ⟨op, mn, mx, rs, ks⟩ := e
     rw [z8m, z65] at hu
     have heat := zvd hX0 hX1 τ s hs j hj 41 (by decide) (by decide) (e0 + 1)
     simp only
     by_cases h41 : nx (rst s j) = 41
     · obtain ⟨hjl, htj, hej⟩ := z2u hj h41 (by decide) (by decide)
       rw [if_pos h41, htj, z4k hjl, rsA, z65]
       rw [if_pos h41, decide_eq_true h41] at heat
       repeat' (first | (apply z0e; (first | refine z13 rfl (by decide) ?_ | (apply z09; (refine z14 rfl hX rfl rfl rfl rfl (by decide) ?_)) | (apply z08; (refine z00 (z03 rfl rfl) rfl rfl (by decide) ?_)) | (apply z19; (refine z00 (z1e (z1s (by omega) (by omega))) rfl rfl (by decide) ?_)) | (apply z0l; (first | refine z1l hu rfl (z05 _ (e0, X) _) (bkT (by repeat (first | exact hT | refine HT.upd ?_ hX0 hX1))) (by decide) ?_ | refine z15 hn rfl (z0s (m := (e0 + 1, X)) hX (bkT (by repeat (first | exact hT | refine HT.upd ?_ hX0 hX1)))) (by decide) ?_)) | (apply z0i; (first | refine z18 (raw' := pbx s ((i + 1 : Nat) : Int) 0 0) rfl hX rfl rfl rfl rfl rfl rfl ?_ | refine z0b rfl rfl rfl rfl rfl rfl ?_)) | (apply z0q; (refine z0j (z0p rfl rfl (by decide)) ?_)))) | (apply z0f; (first | refine z0z ?_ | apply z0c)) | (apply z0d; (first | apply z0h | apply z01 | refine z0o rfl ?_ | apply z02 | apply z3w)) | (apply z3x; (first | (apply z1v; refine z2o mix (by kernel_rfl) ?_) | refine z47 rfl (by first | exact rfl | exact ⟨_, rfl, rfl, rfl⟩) (by decide) ?_ | (apply z1g; (refine z0n (z1a rfl rfl rfl rfl) (by first | exact rfl | exact ⟨_, rfl, rfl, rfl⟩) rfl rfl (by decide) ?_)) | (apply z2v; (refine zle heat (by first | exact rfl | exact ⟨_, rfl, rfl, rfl⟩) rfl (z05 _ (e0, X) _) (bkT (by repeat (first | exact hT | refine HT.upd ?_ hX0 hX1))) (by decide) ?_)) | (apply z3v; (refine z5h (by first | exact rfl | exact ⟨_, rfl, rfl, rfl⟩) rfl rfl rfl rfl rfl rfl ?_)))))
       all_goals try (exfalso; omega)
       all_goals ((repeat rw [z0x]); first | exact z07 Tryz.func68 _ (z0m rfl rfl rfl rfl rfl rfl rfl) ⟨rfl, rfl⟩ | exact z07 Tryz.func68 _ (z1h rfl rfl rfl) ⟨rfl, rfl⟩ | exact z07 Tryz.func68 _ (z0a rfl rfl) ⟨rfl, rfl⟩ | exact z07 Tryz.func68 _ (z11 rfl rfl rfl rfl) ⟨rfl, rfl⟩)
     · rw [if_neg h41, z5o hj, rsA, haE, z65]
       rw [if_neg h41, decide_eq_false h41] at heat
       repeat' (first | (apply z0e; (first | refine z13 rfl (by decide) ?_ | (apply z09; (refine z14 rfl hX rfl rfl rfl rfl (by decide) ?_)) | (apply z08; (refine z00 (z03 rfl rfl) rfl rfl (by decide) ?_)) | (apply z19; (refine z00 (z1e (z1s (by omega) (by omega))) rfl rfl (by decide) ?_)) | (apply z0l; (first | refine z1l hu rfl (z05 _ (e0, X) _) (bkT (by repeat (first | exact hT | refine HT.upd ?_ hX0 hX1))) (by decide) ?_ | refine z15 hn rfl (z0s (m := (e0 + 1, X)) hX (bkT (by repeat (first | exact hT | refine HT.upd ?_ hX0 hX1)))) (by decide) ?_)) | (apply z0i; (first | refine z18 (raw' := pbx s ((i + 1 : Nat) : Int) 0 0) rfl hX rfl rfl rfl rfl rfl rfl ?_ | refine z0b rfl rfl rfl rfl rfl rfl ?_)) | (apply z0q; (refine z0j (z0p rfl rfl (by decide)) ?_)))) | (apply z0f; (first | refine z0z ?_ | apply z0c)) | (apply z0d; (first | apply z0h | apply z01 | refine z0o rfl ?_ | apply z02 | apply z3w)) | (apply z3x; (first | (apply z1v; refine z2o mix (by kernel_rfl) ?_) | refine z47 rfl (by first | exact rfl | exact ⟨_, rfl, rfl, rfl⟩) (by decide) ?_ | (apply z1g; (refine z0n (z1a rfl rfl rfl rfl) (by first | exact rfl | exact ⟨_, rfl, rfl, rfl⟩) rfl rfl (by decide) ?_)) | (apply z2v; (refine zle heat (by first | exact rfl | exact ⟨_, rfl, rfl, rfl⟩) rfl (z05 _ (e0, X) _) (bkT (by repeat (first | exact hT | refine HT.upd ?_ hX0 hX1))) (by decide) ?_)) | (apply z3v; (refine z5h (by first | exact rfl | exact ⟨_, rfl, rfl, rfl⟩) rfl rfl rfl rfl rfl rfl ?_)))))
       all_goals try (exfalso; omega)
       all_goals ((repeat rw [z0x]); first | exact z07 Tryz.func68 _ (z0m rfl rfl rfl rfl rfl rfl rfl) ⟨rfl, rfl⟩ | exact z07 Tryz.func68 _ (z1h rfl rfl rfl) ⟨rfl, rfl⟩ | exact z07 Tryz.func68 _ (z0a rfl rfl) ⟨rfl, rfl⟩ | exact z07 Tryz.func68 _ (z11 rfl rfl rfl rfl) ⟨rfl, rfl⟩)
   · rw [hp] at hu haE
     simp only at haE
     rw [z8m, z4w] at hu
     simp only
     rw [rsA, haE, z4w]
     repeat' (first | (apply z0e; (first | refine z13 rfl (by decide) ?_ | (apply z09; (refine z14 rfl hX rfl rfl rfl rfl (by decide) ?_)) | (apply z08; (refine z00 (z03 rfl rfl) rfl rfl (by decide) ?_)) | (apply z19; (refine z00 (z1e (z1s (by omega) (by omega))) rfl rfl (by decide) ?_)) | (apply z0l; (first | refine z1l hu rfl (z05 _ (e0, X) _) (bkT (by repeat (first | exact hT | refine HT.upd ?_ hX0 hX1))) (by decide) ?_ | refine z15 hn rfl (z0s (m := (e0 + 1, X)) hX (bkT (by repeat (first | exact hT | refine HT.upd ?_ hX0 hX1)))) (by decide) ?_)) | (apply z0i; (first | refine z18 (raw' := pbx s ((i + 1 : Nat) : Int) 0 0) rfl hX rfl rfl rfl rfl rfl rfl ?_ | refine z0b rfl rfl rfl rfl rfl rfl ?_)) | (apply z0q; (refine z0j (z0p rfl rfl (by decide)) ?_)))) | (apply z0f; (first | refine z0z ?_ | apply z0c)) | (apply z0d; (first | apply z0h | apply z01 | refine z0o rfl ?_ | apply z02 | apply z3w)) | (apply z3x; (first | (apply z1v; refine z2o mix (by kernel_rfl) ?_) | refine z3u rfl rfl (by decide) ?_ | refine z47 rfl (by first | exact rfl | exact ⟨_, rfl, rfl, rfl⟩) (by decide) ?_ | (apply z1g; (refine z0n (z1a rfl rfl rfl rfl) (by first | exact rfl | exact ⟨_, rfl, rfl, rfl⟩) rfl rfl (by decide) ?_)) | (apply z3v; (refine z5h (by first | exact rfl | exact ⟨_, rfl, rfl, rfl⟩) rfl rfl rfl rfl rfl rfl ?_)))))
     all_goals try (exfalso; omega)
     all_goals ((repeat rw [z0x]); first | exact z07 Tryz.func68 _ (z0m rfl rfl rfl rfl rfl rfl rfl) ⟨rfl, rfl⟩ | exact z07 Tryz.func68 _ (z1h rfl rfl rfl) ⟨rfl, rfl⟩ | exact z07 Tryz.func68 _ (z0a rfl rfl) ⟨rfl, rfl⟩ | exact z07 Tryz.func68 _ (z11 rfl rfl rfl rfl) ⟨rfl, rfl⟩)
   · rw [hp] at hne; exact absurd rfl hne
 rw [if_neg h40] at hne ⊢
 by_cases h46 : nx (rst s i) = 46
 · obtain ⟨hlt, ht, he⟩ := z2u hi h46 (by decide) (by decide)
   rw [if_pos h46, ht, z4k hlt]
   have ho := zqz 0 1114111
   rw [h46] at hn
   repeat' (first | (apply z0e; (first | refine z13 rfl (by decide) ?_ | (apply z09; (refine z14 rfl hX rfl rfl rfl rfl (by decide) ?_)) | (apply z08; (refine z00 (z03 rfl rfl) rfl rfl (by decide) ?_)) | (apply z19; (refine z00 (z1e (z1s (by omega) (by omega))) rfl rfl (by decide) ?_)) | (apply z0l; (first | refine z15 hn rfl (z0s (m := (e0 + 1, X)) hX (bkT (by repeat (first | exact hT | refine HT.upd ?_ hX0 hX1)))) (by decide) ?_ | refine z1z ho rfl (by decide) ?_)) | (apply z0i; (first | refine z18 (raw' := pbx s ((i + 1 : Nat) : Int) 0 0) rfl hX rfl rfl rfl rfl rfl rfl ?_ | refine z0b rfl rfl rfl rfl rfl rfl ?_)) | (apply z0q; (refine z0j (z0p rfl rfl (by decide)) ?_)))) | (apply z0f; (first | refine z0z ?_ | apply z0c)) | (apply z0d; (first | apply z0h | apply z01 | refine z0o rfl ?_ | refine z0g rfl ?_ | apply z02)))
   all_goals try (exfalso; omega)
   all_goals ((repeat rw [z0x]); first | exact z07 Tryz.func68 _ (z0m rfl rfl rfl rfl rfl rfl rfl) ⟨rfl, rfl⟩ | exact z07 Tryz.func68 _ (z1h rfl rfl rfl) ⟨rfl, rfl⟩ | exact z07 Tryz.func68 _ (z0a rfl rfl) ⟨rfl, rfl⟩ | exact z07 Tryz.func68 _ (z11 rfl rfl rfl rfl) ⟨rfl, rfl⟩)
 rw [if_neg h46] at hne ⊢
 by_cases h91 : nx (rst s i) = 91
 · rw [if_pos h91] at hne ⊢
   have hcl := zpq hX0 hX1 τ s hs N i hi h91 hne (e0 + 1)
   have haE : aE N (rst s i) = zc8 := by rw [aE, if_neg h40, if_neg h46, if_pos h91]
   rw [h91] at hn
   rcases hp : ze7 N (rst s i) with ⟨e, r⟩ | ⟨a, b⟩ | _
   · rw [hp] at hcl
     obtain ⟨op, mn, mx, rs, ks⟩ := e
     rw [z8m, z65] at hcl
     rw [rsA, z65]
     repeat' (first | (apply z0e; (first | refine z13 rfl (by decide) ?_ | (apply z0l; (first | refine z1l hcl rfl hX (bkT (by repeat (first | exact hT | refine HT.upd ?_ hX0 hX1))) (by decide) ?_ | refine z15 hn rfl (z0s (m := (e0 + 1, X)) hX (bkT (by repeat (first | exact hT | refine HT.upd ?_ hX0 hX1)))) (by decide) ?_)) | (apply z0i; (refine z0b rfl rfl rfl rfl rfl rfl ?_)) | (apply z0q; (refine z0j (z0p rfl rfl (by decide)) ?_)))) | (apply z0f; (first | refine z0z ?_ | apply z0c)) | (apply z0d; (first | apply z0h | apply z01 | refine z0o rfl ?_ | refine z0g rfl ?_ | apply z02)))
     all_goals try (exfalso; omega)
     all_goals ((repeat rw [z0x]); first | exact z07 Tryz.func68 _ (z0m rfl rfl rfl rfl rfl rfl rfl) ⟨rfl, rfl⟩ | exact z07 Tryz.func68 _ (z1h rfl rfl rfl) ⟨rfl, rfl⟩ | exact z07 Tryz.func68 _ (z0a rfl rfl) ⟨rfl, rfl⟩ | exact z07 Tryz.func68 _ (z11 rfl rfl rfl rfl) ⟨rfl, rfl⟩)
   · rw [hp] at hcl
     rw [z8m, z4w] at hcl
     rw [rsA, haE, z4w]
     repeat' (first | (apply z0e; (first | refine z13 rfl (by decide) ?_ | (apply z0l; (first | refine z1l hcl rfl hX (bkT (by repeat (first | exact hT | refine HT.upd ?_ hX0 hX1))) (by decide) ?_ | refine z15 hn rfl (z0s (m := (e0 + 1, X)) hX (bkT (by repeat (first | exact hT | refine HT.upd ?_ hX0 hX1)))) (by decide) ?_)) | (apply z0i; (refine z0b rfl rfl rfl rfl rfl rfl ?_)) | (apply z0q; (refine z0j (z0p rfl rfl (by decide)) ?_)))) | (apply z0f; (first | refine z0z ?_ | apply z0c)) | (apply z0d; (first | apply z0h | apply z01 | refine z0o rfl ?_ | refine z0g rfl ?_ | apply z02)))
     all_goals try (exfalso; omega)
     all_goals ((repeat rw [z0x]); first | exact z07 Tryz.func68 _ (z0m rfl rfl rfl rfl rfl rfl rfl) ⟨rfl, rfl⟩ | exact z07 Tryz.func68 _ (z1h rfl rfl rfl) ⟨rfl, rfl⟩ | exact z07 Tryz.func68 _ (z0a rfl rfl) ⟨rfl, rfl⟩ | exact z07 Tryz.func68 _ (z11 rfl rfl rfl rfl) ⟨rfl, rfl⟩)
   · exact absurd hp hne
 rw [if_neg h91] at hne ⊢
 have hr := zhv s i
 have hcr := z52 zug (nx (rst s i)) hr.1 hr.2
 by_cases hsp : nx (rst s i) ≠ 92 ∧ spA.contains (nx (rst s i)) = true
 · have haE : aE N (rst s i) = zc8 := by rw [aE, if_neg h40, if_neg h46, if_neg h91, if_pos hsp]
   have hlt := zr6 hi hnx
   have hp : z8l spA (rst s i) = .err (rst s i) 3 := by
    have e1 := z4m hlt
    have hx := zac hlt
    have h1 := hsp.1
    have h2 := hsp.2
    rw [e1, z4e]
    simp only
    rw [← hx, if_neg h1, if_pos h2]
   rw [hp]
   simp only
   rw [z5o hi, rsA, haE, z4w]
   have hf := z5v (X := X) s (I .i64 (i : Nat)) (i : Nat) 3 (e0 + 1) (by decide)
   rw [hsp.2] at hcr
   have h1 := hsp.1
   repeat' (first | (apply z0e; (first | refine z13 rfl (by decide) ?_ | (apply z09; (refine z14 rfl hX rfl rfl rfl rfl (by decide) ?_)) | (apply z08; (refine z00 (z03 rfl rfl) rfl rfl (by decide) ?_)) | (apply z19; (refine z00 (z1e (z1s (by omega) (by omega))) rfl rfl (by decide) ?_)) | (apply z0l; (first | refine z34 hf rfl hX (by decide) ?_ | refine z15 hn rfl (z0s (m := (e0 + 1, X)) hX (bkT (by repeat (first | exact hT | refine HT.upd ?_ hX0 hX1)))) (by decide) ?_ | refine z1z hcr rfl (by decide) ?_)) | (apply z0i; (refine z0b rfl rfl rfl rfl rfl rfl ?_)) | (apply z0q; (refine z0j (z0p rfl rfl (by decide)) ?_)) | (apply z1i; (refine z1j rfl rfl rfl rfl rfl rfl rfl (by decide) ?_)))) | (apply z0f; (first | refine z0z ?_ | apply z0c | refine z2e rfl rfl (by decide) ?_ | refine z3h rfl rfl (fun _ => ?_) (fun _ => ?_))) | (apply z0d; (first | apply z0h | apply z01 | refine z0o rfl ?_ | refine z0g rfl ?_ | apply z06 | apply z02 | apply z04 | refine z1o rfl (fun _ => ?_) (fun _ => ?_))))
   all_goals try (exfalso; omega)
   all_goals ((repeat rw [z0x]); refine z5g wkP ?_; first | exact z07 Tryz.func68 _ (z0m rfl rfl rfl rfl rfl rfl rfl) ⟨rfl, rfl⟩ | exact z07 Tryz.func68 _ (z1h rfl rfl rfl) ⟨rfl, rfl⟩ | exact z07 Tryz.func68 _ (z0a rfl rfl) ⟨rfl, rfl⟩ | exact z07 Tryz.func68 _ (z11 rfl rfl rfl rfl) ⟨rfl, rfl⟩)
 · have hok : nx (rst s i) = 92 ∨ spA.contains (nx (rst s i)) = false := by
    by_cases h : nx (rst s i) = 92
    · exact .inl h
    · right
      cases h2 : spA.contains (nx (rst s i)) with
      | false => rfl
      | true => exact absurd ⟨h, h2⟩ hsp
   have haE : aE N (rst s i) = Rx.one 0 0 := by rw [aE, if_neg h40, if_neg h46, if_neg h91, if_neg hsp]
   have hch := zow hX0 hX1 τ s hs zug i hi hnx hok (e0 + 1)
   rcases hp : z8l spA (rst s i) with ⟨c, r⟩ | ⟨a, b⟩ | _
   · rw [hp] at hch
     have ho := zqz c c
     simp only
     rw [rsA, zic]
     rw [zic] at ho
     rcases hok with h92 | hcf
     · rw [h92] at hn
       repeat' (first | (apply z0e; (first | refine z13 rfl (by decide) ?_ | (apply z0l; (first | refine z1l hch rfl hX (bkT (by repeat (first | exact hT | refine HT.upd ?_ hX0 hX1))) (by decide) ?_ | refine z15 hn rfl (z0s (m := (e0 + 1, X)) hX (bkT (by repeat (first | exact hT | refine HT.upd ?_ hX0 hX1)))) (by decide) ?_ | refine z1z ho rfl (by decide) ?_)) | (apply z0i; (refine z0b rfl rfl rfl rfl rfl rfl ?_)) | (apply z0q; (refine z0j (z0p rfl rfl (by decide)) ?_)))) | (apply z0f; (first | refine z0z ?_ | apply z0c | refine z2e rfl rfl (by decide) ?_)) | (apply z0d; (first | apply z0h | apply z01 | refine z0g rfl ?_ | apply z06 | apply z02 | apply z04)))
       all_goals try (exfalso; omega)
       all_goals ((repeat rw [z0x]); first | exact z07 Tryz.func68 _ (z0m rfl rfl rfl rfl rfl rfl rfl) ⟨rfl, rfl⟩ | exact z07 Tryz.func68 _ (z1h rfl rfl rfl) ⟨rfl, rfl⟩ | exact z07 Tryz.func68 _ (z0a rfl rfl) ⟨rfl, rfl⟩ | exact z07 Tryz.func68 _ (z11 rfl rfl rfl rfl) ⟨rfl, rfl⟩)
     · rw [hcf] at hcr
       repeat' (first | (apply z0e; (first | refine z13 rfl (by decide) ?_ | (apply z09; (refine z14 rfl hX rfl rfl rfl rfl (by decide) ?_)) | (apply z08; (refine z00 (z03 rfl rfl) rfl rfl (by decide) ?_)) | (apply z19; (refine z00 (z1e (z1s (by omega) (by omega))) rfl rfl (by decide) ?_)) | (apply z0l; (first | refine z1l hch rfl hX (bkT (by repeat (first | exact hT | refine HT.upd ?_ hX0 hX1))) (by decide) ?_ | refine z15 hn rfl (z0s (m := (e0 + 1, X)) hX (bkT (by repeat (first | exact hT | refine HT.upd ?_ hX0 hX1)))) (by decide) ?_ | refine z1z hcr rfl (by decide) ?_ | refine z1z ho rfl (by decide) ?_)) | (apply z0i; (refine z0b rfl rfl rfl rfl rfl rfl ?_)) | (apply z0q; (refine z0j (z0p rfl rfl (by decide)) ?_)))) | (apply z0f; (first | refine z0z ?_ | apply z0c | refine z2e rfl rfl (by decide) ?_ | refine z3h rfl rfl (fun _ => ?_) (fun _ => ?_))) | (apply z0d; (first | apply z0h | apply z01 | refine z0g rfl ?_ | apply z06 | apply z02 | apply z04 | refine z1o rfl (fun _ => ?_) (fun _ => ?_))))
       all_goals try (exfalso; omega)
       all_goals ((repeat rw [z0x]); first | exact z07 Tryz.func68 _ (z0m rfl rfl rfl rfl rfl rfl rfl) ⟨rfl, rfl⟩ | exact z07 Tryz.func68 _ (z1h rfl rfl rfl) ⟨rfl, rfl⟩ | exact z07 Tryz.func68 _ (z0a rfl rfl) ⟨rfl, rfl⟩ | exact z07 Tryz.func68 _ (z11 rfl rfl rfl rfl) ⟨rfl, rfl⟩)
   · rw [hp] at hch
     have ho := zqz 0 0
     simp only
     rw [rsA, haE, zic]
     rw [zic] at ho
     rcases hok with h92 | hcf
     · rw [h92] at hn
       repeat' (first | (apply z0e; (first | refine z13 rfl (by decide) ?_ | (apply z0l; (first | refine z1l hch rfl hX (bkT (by repeat (first | exact hT | refine HT.upd ?_ hX0 hX1))) (by decide) ?_ | refine z15 hn rfl (z0s (m := (e0 + 1, X)) hX (bkT (by repeat (first | exact hT | refine HT.upd ?_ hX0 hX1)))) (by decide) ?_ | refine z1z ho rfl (by decide) ?_)) | (apply z0i; (refine z0b rfl rfl rfl rfl rfl rfl ?_)) | (apply z0q; (refine z0j (z0p rfl rfl (by decide)) ?_)))) | (apply z0f; (first | refine z0z ?_ | apply z0c | refine z2e rfl rfl (by decide) ?_)) | (apply z0d; (first | apply z0h | apply z01 | refine z0g rfl ?_ | apply z06 | apply z02 | apply z04)))
       all_goals try (exfalso; omega)
       all_goals ((repeat rw [z0x]); first | exact z07 Tryz.func68 _ (z0m rfl rfl rfl rfl rfl rfl rfl) ⟨rfl, rfl⟩ | exact z07 Tryz.func68 _ (z1h rfl rfl rfl) ⟨rfl, rfl⟩ | exact z07 Tryz.func68 _ (z0a rfl rfl) ⟨rfl, rfl⟩ | exact z07 Tryz.func68 _ (z11 rfl rfl rfl rfl) ⟨rfl, rfl⟩)
     · rw [hcf] at hcr
       repeat' (first | (apply z0e; (first | refine z13 rfl (by decide) ?_ | (apply z09; (refine z14 rfl hX rfl rfl rfl rfl (by decide) ?_)) | (apply z08; (refine z00 (z03 rfl rfl) rfl rfl (by decide) ?_)) | (apply z19; (refine z00 (z1e (z1s (by omega) (by omega))) rfl rfl (by decide) ?_)) | (apply z0l; (first | refine z1l hch rfl hX (bkT (by repeat (first | exact hT | refine HT.upd ?_ hX0 hX1))) (by decide) ?_ | refine z15 hn rfl (z0s (m := (e0 + 1, X)) hX (bkT (by repeat (first | exact hT | refine HT.upd ?_ hX0 hX1)))) (by decide) ?_ | refine z1z hcr rfl (by decide) ?_ | refine z1z ho rfl (by decide) ?_)) | (apply z0i; (refine z0b rfl rfl rfl rfl rfl rfl ?_)) | (apply z0q; (refine z0j (z0p rfl rfl (by decide)) ?_)))) | (apply z0f; (first | refine z0z ?_ | apply z0c | refine z2e rfl rfl (by decide) ?_ | refine z3h rfl rfl (fun _ => ?_) (fun _ => ?_))) | (apply z0d; (first | apply z0h | apply z01 | refine z0g rfl ?_ | apply z06 | apply z02 | apply z04 | refine z1o rfl (fun _ => ?_) (fun _ => ?_))))
       all_goals try (exfalso; omega)
       all_goals ((repeat rw [z0x]); first | exact z07 Tryz.func68 _ (z0m rfl rfl rfl rfl rfl rfl rfl) ⟨rfl, rfl⟩ | exact z07 Tryz.func68 _ (z1h rfl rfl rfl) ⟨rfl, rfl⟩ | exact z07 Tryz.func68 _ (z0a rfl rfl) ⟨rfl, rfl⟩ | exact z07 Tryz.func68 _ (z11 rfl rfl rfl rfl) ⟨rfl, rfl⟩)
   · exact absurd hp z95
end
end Go.Proofs.YtjmbjgecfpggdaaGreatDoor
namespace Go.Proofs.YtjmbjgecfpggdaaGreatDoor
open Go.Ab Go.Rx
set_option maxHeartbeats 20000000
set_option maxRecDepth 100000
attribute [local irreducible] Run Ops Op1 z2r Val Tr z1n z36 NF Rel z5q z5r
theorem zgs {lo hi : Int} {l r : List U} {b : Int × Int} (h : zce lo hi l = .ok b r) : nx r = 125 := by
 rw [zce] at h
 split at h
 · simp only [Rd.ok.injEq] at h; rw [← h.2]; assumption
 · simp at h
theorem zks {l r : List U} {b : Int × Int} (h : z8k l = .ok b r) : nx r = 125 := by
 rw [z8k] at h
 split at h
 · simp at h
 · simp at h
 · split at h
   · split at h
     · exact zgs h
     · split at h
       · simp at h
       · simp at h
       · exact zgs h
   · exact zgs h
section
variable {X : Nat} (hX0 : X ≠ 700) (hX1 : X ≠ 701) (τ : Tab) (s : ByteArray) (hs : s.size ≤ 1000000)
include hX0 hX1 hs
theorem zno (N : Nat) (hA : HA X τ s N) : HR X τ s (N + 2) := by
 intro i hi hnx e0 hne
 refine z42 fun H hH => ?_
 have hX : H e0 X = some (pbx s i 0 0) := hH ((e0, X), pbx s i 0 0) (by simp)
 have hT : HT τ (e0 + 1) H := HT.of (bs := [((e0, X), pbx s i 0 0)]) hH
 refine z16 Tryz.func51 (by kernel_rfl) rfl (by simp) ?_
 dsimp only [Tryz.f51]
 rw [pR] at hne ⊢
 have ha := hA i hi hnx (e0 + 1) (fun h => hne (by rw [h]))
 have hsf := ((zdi (N + 1)).2.2.2.2 (rst s i)).1
 rcases hp : pA (N + 1) (rst s i) with ⟨e, r⟩ | ⟨a, b⟩ | _
 · rw [hp] at ha hsf hne
   obtain ⟨j0, hj1, hj0, rfl⟩ := z5p s _ i r (Nat.le_refl _) hi hsf
   rw [z4k hj0] at ha
   simp only at hne ⊢
   obtain ⟨T, hT0⟩ : ∃ T, pQ (N + 1) e (rst s j0) = T := ⟨_, rfl⟩
   rw [hT0] at hne ⊢
   obtain ⟨op, mn, mx, rs, ks⟩ := e
   rw [rsA, z65] at ha
   repeat' (first | (apply z0e; (first | refine z13 rfl (by decide) ?_ | (apply z0l; (refine z1l ha rfl hX (bkT (by repeat (first | exact hT | refine HT.upd ?_ hX0 hX1))) (by decide) ?_)) | (apply z0i; (refine z0b rfl rfl rfl rfl rfl rfl ?_)) | (apply z0q; (refine z0j (z0p rfl rfl (by decide)) ?_)))) | (apply z0f; (first | refine z0z ?_ | apply z0c)) | (apply z0d; (first | apply z0h | apply z01 | apply z02)))
   all_goals try (exfalso; omega)
   refine z2b ?_
   refine z0y (z3e (fun q : Nat × Rx × D × Nat => ⟨54, [(0, .ptr (e0 + 1, X) 0), (2, .ptr (0, 2) 0), (4, .ptr (0, 4) 0), (5, B true)], [(4, .box [.d (za9 q.2.1.op), .d (za9 q.2.1.mn), .d (za9 q.2.1.mx), .d q.2.2.1, .d (.slice (q.2.1.ks.map rxc))]), (2, .box (z6l [Value.int .i64 0, Value.int .i64 0, Value.int .i64 0, z57, z57]))], upd H (e0, X) (pbx s (q.2.2.2 : Nat) 0 0)⟩)
    (fun q => q.2.2.2 ≤ s.size ∧ pQ q.1 q.2.1 (rst s q.2.2.2) = T ∧ (q.2.2.1 = rgs q.2.1.rs ∨ (q.2.2.1 = .lit z57 ∧ q.2.1.rs = []))) (fun q => q.1) ?_ (N + 1, .mk op mn mx rs ks, rgs rs, j0) ⟨hj0, hT0, .inl rfl⟩) rfl rfl
   clear hT0 ha hp hsf
   rintro ⟨m, ⟨op, mn, mx, rs, ks⟩, R, j⟩ ⟨i1, i2, i3⟩ ih
   simp only [Rx.op, Rx.mn, Rx.mx, Rx.rs, Rx.ks] at i1 i2 i3 ih ⊢
   cases m with
   | zero => rw [pQ] at i2; exact absurd i2.symm hne
   | succ m =>
   have hn := z4t (X := X) τ s j i1 0 0 (e0 + 1)
   rw [pQ] at i2
   rcases i3 with rfl | ⟨rfl, rfl⟩
   · skip
     by_cases h42 : nx (rst s j) = 42
     · rw [if_pos h42] at i2
       obtain ⟨hjl, htj, hej⟩ := z2u i1 h42 (by decide) (by decide)
       rw [htj] at i2
       rw [h42] at hn
       have ih' := ih (m, zaj 0 (-1) (.mk op mn mx rs ks), .lit z57, j + 1) ⟨hjl, i2, .inr ⟨rfl, rfl⟩⟩ (by simp only; omega)
       simp only [zaj, Rx.op, Rx.mn, Rx.mx, Rx.ks, List.map_cons, List.map_nil, z2j] at ih'
       repeat' (first | (apply z0e; (first | refine z13 rfl (by decide) ?_ | (apply z09; (first | refine z14 rfl (z05 _ (e0, X) _) rfl rfl rfl rfl (by decide) ?_ | refine z00 (z1a rfl rfl rfl rfl) rfl rfl (by decide) ?_)) | (apply z08; (refine z00 (z03 rfl rfl) rfl rfl (by decide) ?_)) | (apply z19; (refine z00 (z1e (z1s (by omega) (by omega))) rfl rfl (by decide) ?_)) | (apply z0l; (refine z15 hn rfl (z0s (m := (e0 + 1, X)) (z05 _ (e0, X) _) (bkT (by repeat (first | exact hT | refine HT.upd ?_ hX0 hX1)))) (by decide) ?_)) | (apply z0i; (first | refine z18 (raw' := pbx s ((j + 1 : Nat) : Int) 0 0) rfl (z05 _ (e0, X) _) rfl rfl rfl rfl rfl rfl ?_ | refine z0b rfl rfl rfl rfl rfl rfl ?_)) | (apply z1i; (refine z1j rfl rfl rfl rfl rfl rfl rfl (by decide) ?_)) | (apply z3p; (refine z3n rfl rfl rfl rfl rfl rfl rfl rfl (by decide) ?_)))) | (apply z0f; (first | refine z0z ?_ | apply z0c)) | (apply z0d; (first | apply z0h | apply z01 | refine z0o rfl ?_ | apply z06 | apply z02 | apply z04)))
       all_goals try (exfalso; omega)
       all_goals ((repeat rw [z0x]); exact z0y ih' rfl rfl)
     rw [if_neg h42] at i2
     by_cases h43 : nx (rst s j) = 43
     · rw [if_pos h43] at i2
       obtain ⟨hjl, htj, hej⟩ := z2u i1 h43 (by decide) (by decide)
       rw [htj] at i2
       rw [h43] at hn
       have ih' := ih (m, zaj 1 (-1) (.mk op mn mx rs ks), .lit z57, j + 1) ⟨hjl, i2, .inr ⟨rfl, rfl⟩⟩ (by simp only; omega)
       simp only [zaj, Rx.op, Rx.mn, Rx.mx, Rx.ks, List.map_cons, List.map_nil, z2j] at ih'
       repeat' (first | (apply z0e; (first | refine z13 rfl (by decide) ?_ | (apply z09; (first | refine z14 rfl (z05 _ (e0, X) _) rfl rfl rfl rfl (by decide) ?_ | refine z00 (z1a rfl rfl rfl rfl) rfl rfl (by decide) ?_)) | (apply z08; (refine z00 (z03 rfl rfl) rfl rfl (by decide) ?_)) | (apply z19; (refine z00 (z1e (z1s (by omega) (by omega))) rfl rfl (by decide) ?_)) | (apply z0l; (refine z15 hn rfl (z0s (m := (e0 + 1, X)) (z05 _ (e0, X) _) (bkT (by repeat (first | exact hT | refine HT.upd ?_ hX0 hX1)))) (by decide) ?_)) | (apply z0i; (first | refine z18 (raw' := pbx s ((j + 1 : Nat) : Int) 0 0) rfl (z05 _ (e0, X) _) rfl rfl rfl rfl rfl rfl ?_ | refine z0b rfl rfl rfl rfl rfl rfl ?_)) | (apply z1i; (refine z1j rfl rfl rfl rfl rfl rfl rfl (by decide) ?_)) | (apply z3p; (refine z3n rfl rfl rfl rfl rfl rfl rfl rfl (by decide) ?_)))) | (apply z0f; (first | refine z0z ?_ | apply z0c)) | (apply z0d; (first | apply z0h | apply z01 | refine z0o rfl ?_ | refine z0g rfl ?_ | apply z06 | apply z02 | apply z04)))
       all_goals try (exfalso; omega)
       all_goals ((repeat rw [z0x]); exact z0y ih' rfl rfl)
     rw [if_neg h43] at i2
     by_cases h63 : nx (rst s j) = 63
     · rw [if_pos h63] at i2
       obtain ⟨hjl, htj, hej⟩ := z2u i1 h63 (by decide) (by decide)
       rw [htj] at i2
       rw [h63] at hn
       have ih' := ih (m, zaj 0 1 (.mk op mn mx rs ks), .lit z57, j + 1) ⟨hjl, i2, .inr ⟨rfl, rfl⟩⟩ (by simp only; omega)
       simp only [zaj, Rx.op, Rx.mn, Rx.mx, Rx.ks, List.map_cons, List.map_nil, z2j] at ih'
       repeat' (first | (apply z0e; (first | refine z13 rfl (by decide) ?_ | (apply z09; (first | refine z14 rfl (z05 _ (e0, X) _) rfl rfl rfl rfl (by decide) ?_ | refine z00 (z1a rfl rfl rfl rfl) rfl rfl (by decide) ?_)) | (apply z08; (refine z00 (z03 rfl rfl) rfl rfl (by decide) ?_)) | (apply z19; (refine z00 (z1e (z1s (by omega) (by omega))) rfl rfl (by decide) ?_)) | (apply z0l; (refine z15 hn rfl (z0s (m := (e0 + 1, X)) (z05 _ (e0, X) _) (bkT (by repeat (first | exact hT | refine HT.upd ?_ hX0 hX1)))) (by decide) ?_)) | (apply z0i; (first | refine z18 (raw' := pbx s ((j + 1 : Nat) : Int) 0 0) rfl (z05 _ (e0, X) _) rfl rfl rfl rfl rfl rfl ?_ | refine z0b rfl rfl rfl rfl rfl rfl ?_)) | (apply z1i; (refine z1j rfl rfl rfl rfl rfl rfl rfl (by decide) ?_)) | (apply z3p; (refine z3n rfl rfl rfl rfl rfl rfl rfl rfl (by decide) ?_)))) | (apply z0f; (first | refine z0z ?_ | apply z0c)) | (apply z0d; (first | apply z0h | apply z01 | refine z0o rfl ?_ | refine z0g rfl ?_ | apply z06 | apply z02 | apply z04)))
       all_goals try (exfalso; omega)
       all_goals ((repeat rw [z0x]); exact z0y ih' rfl rfl)
     rw [if_neg h63] at i2
     by_cases h123 : nx (rst s j) = 123
     · rw [if_pos h123] at i2
       obtain ⟨hjl, htj, hej⟩ := z2u i1 h123 (by decide) (by decide)
       rw [htj] at i2
       rw [h123] at hn
       have hb := zhi hX0 hX1 τ s hs (j + 1) hjl (e0 + 1)
       have hbf := z7m (rst s (j + 1))
       rcases hp : z8k (rst s (j + 1)) with ⟨⟨lo, hi'⟩, r⟩ | ⟨a, b⟩ | _
       · rw [hp] at hb hbf i2
         obtain ⟨k, hk1, hk, rfl⟩ := z5p s _ (j + 1) r (Nat.le_refl _) hjl hbf
         obtain ⟨hkl, htk, hek⟩ := z2u hk (zks hp) (by decide) (by decide)
         simp only at i2
         rw [htk] at i2
         rw [z4k hk, rsB] at hb
         have ih' := ih (m, zaj lo hi' (.mk op mn mx rs ks), .lit z57, k + 1) ⟨hkl, i2, .inr ⟨rfl, rfl⟩⟩ (by simp only; omega)
         simp only [zaj, Rx.op, Rx.mn, Rx.mx, Rx.ks, List.map_cons, List.map_nil, z2j] at ih'
         repeat' (first | (apply z0e; (first | refine z13 rfl (by decide) ?_ | (apply z09; (first | refine z14 rfl (z05 _ (e0, X) _) rfl rfl rfl rfl (by decide) ?_ | refine z00 (z1a rfl rfl rfl rfl) rfl rfl (by decide) ?_)) | (apply z08; (refine z00 (z03 rfl rfl) rfl rfl (by decide) ?_)) | (apply z19; (refine z00 (z1e (z1s (by omega) (by omega))) rfl rfl (by decide) ?_)) | (apply z0l; (first | refine z1l hb rfl (z05 _ (e0, X) _) (bkT (by repeat (first | exact hT | refine HT.upd ?_ hX0 hX1))) (by decide) ?_ | refine z15 hn rfl (z0s (m := (e0 + 1, X)) (z05 _ (e0, X) _) (bkT (by repeat (first | exact hT | refine HT.upd ?_ hX0 hX1)))) (by decide) ?_)) | (apply z0i; (first | refine z18 (raw' := pbx s ((k + 1 : Nat) : Int) 0 0) rfl (z05 _ (e0, X) _) rfl rfl rfl rfl rfl rfl ?_ | refine z18 (raw' := pbx s ((j + 1 : Nat) : Int) 0 0) rfl (z05 _ (e0, X) _) rfl rfl rfl rfl rfl rfl ?_ | refine z0b rfl rfl rfl rfl rfl rfl ?_)) | (apply z1i; (refine z1j rfl rfl rfl rfl rfl rfl rfl (by decide) ?_)) | (apply z3p; (refine z3n rfl rfl rfl rfl rfl rfl rfl rfl (by decide) ?_)))) | (apply z0f; (first | refine z0z ?_ | apply z0c)) | (apply z0d; (first | apply z0h | apply z01 | refine z0o rfl ?_ | refine z0g rfl ?_ | apply z06 | apply z02 | apply z04)))
         all_goals try (exfalso; omega)
         all_goals ((repeat rw [z0x]); exact z0y ih' rfl rfl)
       · rw [hp] at hb i2
         simp only at i2
         rw [← i2, z8m, z4w]
         rw [rsB] at hb
         repeat' (first | (apply z0e; (first | refine z13 rfl (by decide) ?_ | (apply z09; (refine z14 rfl (z05 _ (e0, X) _) rfl rfl rfl rfl (by decide) ?_)) | (apply z08; (refine z00 (z03 rfl rfl) rfl rfl (by decide) ?_)) | (apply z19; (refine z00 (z1e (z1s (by omega) (by omega))) rfl rfl (by decide) ?_)) | (apply z0l; (first | refine z1l hb rfl (z05 _ (e0, X) _) (bkT (by repeat (first | exact hT | refine HT.upd ?_ hX0 hX1))) (by decide) ?_ | refine z15 hn rfl (z0s (m := (e0 + 1, X)) (z05 _ (e0, X) _) (bkT (by repeat (first | exact hT | refine HT.upd ?_ hX0 hX1)))) (by decide) ?_)) | (apply z0i; (first | refine z18 (raw' := pbx s ((j + 1 : Nat) : Int) 0 0) rfl (z05 _ (e0, X) _) rfl rfl rfl rfl rfl rfl ?_ | refine z0b rfl rfl rfl rfl rfl rfl ?_)) | (apply z1i; (refine z1j rfl rfl rfl rfl rfl rfl rfl (by decide) ?_)))) | (apply z0f; (first | refine z0z ?_ | apply z0c)) | (apply z0d; (first | apply z0h | apply z01 | refine z0o rfl ?_ | refine z0g rfl ?_ | apply z06 | apply z02)))
         all_goals try (exfalso; omega)
         all_goals ((repeat rw [z0x]); first | exact z07 Tryz.func51 _ (z0m rfl rfl rfl rfl rfl rfl rfl) ⟨rfl, rfl⟩ | exact z07 Tryz.func51 _ (z1h rfl rfl rfl) ⟨rfl, rfl⟩ | exact z07 Tryz.func51 _ (z0a rfl rfl) ⟨rfl, rfl⟩ | exact z07 Tryz.func51 _ (z11 rfl rfl rfl rfl) ⟨rfl, rfl⟩)
       · exact absurd hp zfx
     rw [if_neg h123] at i2
     rw [← i2, z8m, z65, z4k i1]
     repeat' (first | (apply z0e; (first | refine z13 rfl (by decide) ?_ | (apply z09; (first | refine z14 rfl (z05 _ (e0, X) _) rfl rfl rfl rfl (by decide) ?_ | refine z00 (z1a rfl rfl rfl rfl) rfl rfl (by decide) ?_)) | (apply z08; (refine z00 (z03 rfl rfl) rfl rfl (by decide) ?_)) | (apply z19; (refine z00 (z1e (z1s (by omega) (by omega))) rfl rfl (by decide) ?_)) | (apply z0l; (refine z15 hn rfl (z0s (m := (e0 + 1, X)) (z05 _ (e0, X) _) (bkT (by repeat (first | exact hT | refine HT.upd ?_ hX0 hX1)))) (by decide) ?_)) | (apply z0i; (refine z0b rfl rfl rfl rfl rfl rfl ?_)))) | (apply z0f; (first | refine z0z ?_ | apply z0c)) | (apply z0d; (first | apply z0h | apply z01 | refine z0o rfl ?_ | apply z06 | apply z02 | apply z04 | refine z1o rfl (fun _ => ?_) (fun _ => ?_))))
     all_goals try (exfalso; omega)
     all_goals ((repeat rw [z0x]); first | exact z07 Tryz.func51 _ (z0m rfl rfl rfl rfl rfl rfl rfl) ⟨rfl, rfl⟩ | exact z07 Tryz.func51 _ (z1h rfl rfl rfl) ⟨rfl, rfl⟩ | exact z07 Tryz.func51 _ (z0a rfl rfl) ⟨rfl, rfl⟩ | exact z07 Tryz.func51 _ (z11 rfl rfl rfl rfl) ⟨rfl, rfl⟩)
   · skip
     by_cases h42 : nx (rst s j) = 42
     · rw [if_pos h42] at i2
       obtain ⟨hjl, htj, hej⟩ := z2u i1 h42 (by decide) (by decide)
       rw [htj] at i2
       rw [h42] at hn
       have ih' := ih (m, zaj 0 (-1) (.mk op mn mx [] ks), .lit z57, j + 1) ⟨hjl, i2, .inr ⟨rfl, rfl⟩⟩ (by simp only; omega)
       simp only [zaj, Rx.op, Rx.mn, Rx.mx, Rx.ks, List.map_cons, List.map_nil, z2j] at ih'
       repeat' (first | (apply z0e; (first | refine z13 rfl (by decide) ?_ | (apply z09; (first | refine z14 rfl (z05 _ (e0, X) _) rfl rfl rfl rfl (by decide) ?_ | refine z00 (z1a rfl rfl rfl rfl) rfl rfl (by decide) ?_)) | (apply z08; (refine z00 (z03 rfl rfl) rfl rfl (by decide) ?_)) | (apply z19; (refine z00 (z1e (z1s (by omega) (by omega))) rfl rfl (by decide) ?_)) | (apply z0l; (refine z15 hn rfl (z0s (m := (e0 + 1, X)) (z05 _ (e0, X) _) (bkT (by repeat (first | exact hT | refine HT.upd ?_ hX0 hX1)))) (by decide) ?_)) | (apply z0i; (first | refine z18 (raw' := pbx s ((j + 1 : Nat) : Int) 0 0) rfl (z05 _ (e0, X) _) rfl rfl rfl rfl rfl rfl ?_ | refine z0b rfl rfl rfl rfl rfl rfl ?_)) | (apply z1i; (refine z1j rfl rfl rfl rfl rfl rfl rfl (by decide) ?_)) | (apply z3p; (refine z3n rfl rfl rfl rfl rfl rfl rfl rfl (by decide) ?_)))) | (apply z0f; (first | refine z0z ?_ | apply z0c)) | (apply z0d; (first | apply z0h | apply z01 | refine z0o rfl ?_ | apply z06 | apply z02 | apply z04)))
       all_goals try (exfalso; omega)
       all_goals ((repeat rw [z0x]); exact z0y ih' rfl rfl)
     rw [if_neg h42] at i2
     by_cases h43 : nx (rst s j) = 43
     · rw [if_pos h43] at i2
       obtain ⟨hjl, htj, hej⟩ := z2u i1 h43 (by decide) (by decide)
       rw [htj] at i2
       rw [h43] at hn
       have ih' := ih (m, zaj 1 (-1) (.mk op mn mx [] ks), .lit z57, j + 1) ⟨hjl, i2, .inr ⟨rfl, rfl⟩⟩ (by simp only; omega)
       simp only [zaj, Rx.op, Rx.mn, Rx.mx, Rx.ks, List.map_cons, List.map_nil, z2j] at ih'
       repeat' (first | (apply z0e; (first | refine z13 rfl (by decide) ?_ | (apply z09; (first | refine z14 rfl (z05 _ (e0, X) _) rfl rfl rfl rfl (by decide) ?_ | refine z00 (z1a rfl rfl rfl rfl) rfl rfl (by decide) ?_)) | (apply z08; (refine z00 (z03 rfl rfl) rfl rfl (by decide) ?_)) | (apply z19; (refine z00 (z1e (z1s (by omega) (by omega))) rfl rfl (by decide) ?_)) | (apply z0l; (refine z15 hn rfl (z0s (m := (e0 + 1, X)) (z05 _ (e0, X) _) (bkT (by repeat (first | exact hT | refine HT.upd ?_ hX0 hX1)))) (by decide) ?_)) | (apply z0i; (first | refine z18 (raw' := pbx s ((j + 1 : Nat) : Int) 0 0) rfl (z05 _ (e0, X) _) rfl rfl rfl rfl rfl rfl ?_ | refine z0b rfl rfl rfl rfl rfl rfl ?_)) | (apply z1i; (refine z1j rfl rfl rfl rfl rfl rfl rfl (by decide) ?_)) | (apply z3p; (refine z3n rfl rfl rfl rfl rfl rfl rfl rfl (by decide) ?_)))) | (apply z0f; (first | refine z0z ?_ | apply z0c)) | (apply z0d; (first | apply z0h | apply z01 | refine z0o rfl ?_ | refine z0g rfl ?_ | apply z06 | apply z02 | apply z04)))
       all_goals try (exfalso; omega)
       all_goals ((repeat rw [z0x]); exact z0y ih' rfl rfl)
     rw [if_neg h43] at i2
     by_cases h63 : nx (rst s j) = 63
     · rw [if_pos h63] at i2
       obtain ⟨hjl, htj, hej⟩ := z2u i1 h63 (by decide) (by decide)
       rw [htj] at i2
       rw [h63] at hn
       have ih' := ih (m, zaj 0 1 (.mk op mn mx [] ks), .lit z57, j + 1) ⟨hjl, i2, .inr ⟨rfl, rfl⟩⟩ (by simp only; omega)
       simp only [zaj, Rx.op, Rx.mn, Rx.mx, Rx.ks, List.map_cons, List.map_nil, z2j] at ih'
       repeat' (first | (apply z0e; (first | refine z13 rfl (by decide) ?_ | (apply z09; (first | refine z14 rfl (z05 _ (e0, X) _) rfl rfl rfl rfl (by decide) ?_ | refine z00 (z1a rfl rfl rfl rfl) rfl rfl (by decide) ?_)) | (apply z08; (refine z00 (z03 rfl rfl) rfl rfl (by decide) ?_)) | (apply z19; (refine z00 (z1e (z1s (by omega) (by omega))) rfl rfl (by decide) ?_)) | (apply z0l; (refine z15 hn rfl (z0s (m := (e0 + 1, X)) (z05 _ (e0, X) _) (bkT (by repeat (first | exact hT | refine HT.upd ?_ hX0 hX1)))) (by decide) ?_)) | (apply z0i; (first | refine z18 (raw' := pbx s ((j + 1 : Nat) : Int) 0 0) rfl (z05 _ (e0, X) _) rfl rfl rfl rfl rfl rfl ?_ | refine z0b rfl rfl rfl rfl rfl rfl ?_)) | (apply z1i; (refine z1j rfl rfl rfl rfl rfl rfl rfl (by decide) ?_)) | (apply z3p; (refine z3n rfl rfl rfl rfl rfl rfl rfl rfl (by decide) ?_)))) | (apply z0f; (first | refine z0z ?_ | apply z0c)) | (apply z0d; (first | apply z0h | apply z01 | refine z0o rfl ?_ | refine z0g rfl ?_ | apply z06 | apply z02 | apply z04)))
       all_goals try (exfalso; omega)
       all_goals ((repeat rw [z0x]); exact z0y ih' rfl rfl)
     rw [if_neg h63] at i2
     by_cases h123 : nx (rst s j) = 123
     · rw [if_pos h123] at i2
       obtain ⟨hjl, htj, hej⟩ := z2u i1 h123 (by decide) (by decide)
       rw [htj] at i2
       rw [h123] at hn
       have hb := zhi hX0 hX1 τ s hs (j + 1) hjl (e0 + 1)
       have hbf := z7m (rst s (j + 1))
       rcases hp : z8k (rst s (j + 1)) with ⟨⟨lo, hi'⟩, r⟩ | ⟨a, b⟩ | _
       · rw [hp] at hb hbf i2
         obtain ⟨k, hk1, hk, rfl⟩ := z5p s _ (j + 1) r (Nat.le_refl _) hjl hbf
         obtain ⟨hkl, htk, hek⟩ := z2u hk (zks hp) (by decide) (by decide)
         simp only at i2
         rw [htk] at i2
         rw [z4k hk, rsB] at hb
         have ih' := ih (m, zaj lo hi' (.mk op mn mx [] ks), .lit z57, k + 1) ⟨hkl, i2, .inr ⟨rfl, rfl⟩⟩ (by simp only; omega)
         simp only [zaj, Rx.op, Rx.mn, Rx.mx, Rx.ks, List.map_cons, List.map_nil, z2j] at ih'
         repeat' (first | (apply z0e; (first | refine z13 rfl (by decide) ?_ | (apply z09; (first | refine z14 rfl (z05 _ (e0, X) _) rfl rfl rfl rfl (by decide) ?_ | refine z00 (z1a rfl rfl rfl rfl) rfl rfl (by decide) ?_)) | (apply z08; (refine z00 (z03 rfl rfl) rfl rfl (by decide) ?_)) | (apply z19; (refine z00 (z1e (z1s (by omega) (by omega))) rfl rfl (by decide) ?_)) | (apply z0l; (first | refine z1l hb rfl (z05 _ (e0, X) _) (bkT (by repeat (first | exact hT | refine HT.upd ?_ hX0 hX1))) (by decide) ?_ | refine z15 hn rfl (z0s (m := (e0 + 1, X)) (z05 _ (e0, X) _) (bkT (by repeat (first | exact hT | refine HT.upd ?_ hX0 hX1)))) (by decide) ?_)) | (apply z0i; (first | refine z18 (raw' := pbx s ((k + 1 : Nat) : Int) 0 0) rfl (z05 _ (e0, X) _) rfl rfl rfl rfl rfl rfl ?_ | refine z18 (raw' := pbx s ((j + 1 : Nat) : Int) 0 0) rfl (z05 _ (e0, X) _) rfl rfl rfl rfl rfl rfl ?_ | refine z0b rfl rfl rfl rfl rfl rfl ?_)) | (apply z1i; (refine z1j rfl rfl rfl rfl rfl rfl rfl (by decide) ?_)) | (apply z3p; (refine z3n rfl rfl rfl rfl rfl rfl rfl rfl (by decide) ?_)))) | (apply z0f; (first | refine z0z ?_ | apply z0c)) | (apply z0d; (first | apply z0h | apply z01 | refine z0o rfl ?_ | refine z0g rfl ?_ | apply z06 | apply z02 | apply z04)))
         all_goals try (exfalso; omega)
         all_goals ((repeat rw [z0x]); exact z0y ih' rfl rfl)
       · rw [hp] at hb i2
         simp only at i2
         rw [← i2, z8m, z4w]
         rw [rsB] at hb
         repeat' (first | (apply z0e; (first | refine z13 rfl (by decide) ?_ | (apply z09; (refine z14 rfl (z05 _ (e0, X) _) rfl rfl rfl rfl (by decide) ?_)) | (apply z08; (refine z00 (z03 rfl rfl) rfl rfl (by decide) ?_)) | (apply z19; (refine z00 (z1e (z1s (by omega) (by omega))) rfl rfl (by decide) ?_)) | (apply z0l; (first | refine z1l hb rfl (z05 _ (e0, X) _) (bkT (by repeat (first | exact hT | refine HT.upd ?_ hX0 hX1))) (by decide) ?_ | refine z15 hn rfl (z0s (m := (e0 + 1, X)) (z05 _ (e0, X) _) (bkT (by repeat (first | exact hT | refine HT.upd ?_ hX0 hX1)))) (by decide) ?_)) | (apply z0i; (first | refine z18 (raw' := pbx s ((j + 1 : Nat) : Int) 0 0) rfl (z05 _ (e0, X) _) rfl rfl rfl rfl rfl rfl ?_ | refine z0b rfl rfl rfl rfl rfl rfl ?_)) | (apply z1i; (refine z1j rfl rfl rfl rfl rfl rfl rfl (by decide) ?_)))) | (apply z0f; (first | refine z0z ?_ | apply z0c)) | (apply z0d; (first | apply z0h | apply z01 | refine z0o rfl ?_ | refine z0g rfl ?_ | apply z06 | apply z02)))
         all_goals try (exfalso; omega)
         all_goals ((repeat rw [z0x]); first | exact z07 Tryz.func51 _ (z0m rfl rfl rfl rfl rfl rfl rfl) ⟨rfl, rfl⟩ | exact z07 Tryz.func51 _ (z1h rfl rfl rfl) ⟨rfl, rfl⟩ | exact z07 Tryz.func51 _ (z0a rfl rfl) ⟨rfl, rfl⟩ | exact z07 Tryz.func51 _ (z11 rfl rfl rfl rfl) ⟨rfl, rfl⟩)
       · exact absurd hp zfx
     rw [if_neg h123] at i2
     rw [← i2, z8m, z65, z4k i1]
     repeat' (first | (apply z0e; (first | refine z13 rfl (by decide) ?_ | (apply z09; (first | refine z14 rfl (z05 _ (e0, X) _) rfl rfl rfl rfl (by decide) ?_ | refine z00 (z1a rfl rfl rfl rfl) rfl rfl (by decide) ?_)) | (apply z08; (refine z00 (z03 rfl rfl) rfl rfl (by decide) ?_)) | (apply z19; (refine z00 (z1e (z1s (by omega) (by omega))) rfl rfl (by decide) ?_)) | (apply z0l; (refine z15 hn rfl (z0s (m := (e0 + 1, X)) (z05 _ (e0, X) _) (bkT (by repeat (first | exact hT | refine HT.upd ?_ hX0 hX1)))) (by decide) ?_)) | (apply z0i; (refine z0b rfl rfl rfl rfl rfl rfl ?_)))) | (apply z0f; (first | refine z0z ?_ | apply z0c)) | (apply z0d; (first | apply z0h | apply z01 | refine z0o rfl ?_ | apply z06 | apply z02 | apply z04 | refine z1o rfl (fun _ => ?_) (fun _ => ?_))))
     all_goals try (exfalso; omega)
     all_goals ((repeat rw [z0x]); first | exact z07 Tryz.func51 _ (z0m rfl rfl rfl rfl rfl rfl rfl) ⟨rfl, rfl⟩ | exact z07 Tryz.func51 _ (z1h rfl rfl rfl) ⟨rfl, rfl⟩ | exact z07 Tryz.func51 _ (z0a rfl rfl) ⟨rfl, rfl⟩ | exact z07 Tryz.func51 _ (z11 rfl rfl rfl rfl) ⟨rfl, rfl⟩)
 · rw [hp] at ha
   simp only
   rw [rsA] at ha
   generalize aE N (rst s i) = E at ha
   obtain ⟨op, mn, mx, rs, ks⟩ := E
   rw [z65] at ha
   rw [z8m, z4w]
   repeat' (first | (apply z0e; (first | refine z13 rfl (by decide) ?_ | (apply z0l; (refine z1l ha rfl hX (bkT (by repeat (first | exact hT | refine HT.upd ?_ hX0 hX1))) (by decide) ?_)) | (apply z0i; (refine z0b rfl rfl rfl rfl rfl rfl ?_)) | (apply z0q; (refine z0j (z0p rfl rfl (by decide)) ?_)))) | (apply z0f; (first | refine z0z ?_ | apply z0c)) | (apply z0d; (first | apply z0h | apply z01 | apply z02)))
   all_goals try (exfalso; omega)
   refine z2b ?_
   refine zdj ?_
   repeat' (first | (apply z0e; (first | refine z13 rfl (by decide) ?_ | (apply z0i; (refine z0b rfl rfl rfl rfl rfl rfl ?_)) | (apply z1i; (refine z1j rfl rfl rfl rfl rfl rfl rfl (by decide) ?_)))) | (apply z0f; (first | refine z0z ?_ | apply z0c)) | (apply z0d; (first | apply z0h | apply z01 | refine z0g rfl ?_ | refine z0r rfl ?_)))
   all_goals try (exfalso; omega)
   all_goals ((repeat rw [z0x]); first | exact z07 Tryz.func51 _ (z0m rfl rfl rfl rfl rfl rfl rfl) ⟨rfl, rfl⟩ | exact z07 Tryz.func51 _ (z1h rfl rfl rfl) ⟨rfl, rfl⟩ | exact z07 Tryz.func51 _ (z0a rfl rfl) ⟨rfl, rfl⟩ | exact z07 Tryz.func51 _ (z11 rfl rfl rfl rfl) ⟨rfl, rfl⟩)
 · rw [hp] at hne; exact absurd rfl hne
end
end Go.Proofs.YtjmbjgecfpggdaaGreatDoor
namespace Go.Proofs.YtjmbjgecfpggdaaGreatDoor
open Go.Ab Go.Rx
set_option maxHeartbeats 20000000
set_option maxRecDepth 100000
attribute [local irreducible] Run Ops Op1 z2r Val Tr z1n z36 NF Rel z5q z5r
theorem zjh {o : Int} {l : List Rx} (h : l.length ≠ 1) : fin o l = .mk o 0 0 [] l := by
 match l, h with
 | [], _ => rfl
 | [e], h => simp at h
 | a :: b :: l, _ => rfl
section
variable {X : Nat} (hX0 : X ≠ 700) (hX1 : X ≠ 701) (τ : Tab) (s : ByteArray) (hs : s.size ≤ 1000000)
include hX0 hX1 hs
theorem zmi (N : Nat) (hR : ∀ m, m < N → HR X τ s m) : HC X τ s N := by
 intro i hi e0 hne
 refine z42 fun H hH => ?_
 have hX : H e0 X = some (pbx s i 0 0) := hH ((e0, X), pbx s i 0 0) (by simp)
 have hT : HT τ (e0 + 1) H := HT.of (bs := [((e0, X), pbx s i 0 0)]) hH
 refine z16 Tryz.func32 (by kernel_rfl) rfl (by simp) ?_
 dsimp only [Tryz.f32]
 have hn := z4t (X := X) τ s i hi 0 0 (e0 + 1)
 have hil := z9j s _ i (Nat.le_refl _)
 obtain ⟨T, hT0⟩ : ∃ T, pC N [] (rst s i) = T := ⟨_, rfl⟩
 rw [hT0] at hne ⊢
 repeat' (first | (apply z0e; (first | refine z13 rfl (by decide) ?_ | (apply z0l; (refine z15 hn rfl (z0s (m := (e0 + 1, X)) hX (bkT (by repeat (first | exact hT | refine HT.upd ?_ hX0 hX1)))) (by decide) ?_)) | (apply z0q; (refine z0j (z0p rfl rfl (by decide)) ?_)))) | (apply z0f; (first | refine z0z ?_ | apply z0c)) | (apply z0d; (first | apply z0h | apply z01 | apply z02)))
 all_goals try (exfalso; omega)
 refine z4l 4 1000 25 5 rfl rfl rfl ?_
 refine z2b ?_
 refine zjl (m := (e0, X)) hX ?_
 refine z0y (z3e (fun q : Nat × List Rx × Nat => ⟨49, [(0, .ptr (e0 + 1, X) 0), (2, .ptr (0, 2) 0), (4, .ref (0, 1000)), (5, I .i32 (nx (rst s q.2.2)))], [(1000, .row 25 5 (q.2.1.map rxc)), (2, .box (z6l [Value.int .i64 0, Value.int .i64 0, Value.int .i64 0, z57, z57]))], upd H (e0, X) (pbx s (q.2.2 : Nat) 0 0)⟩)
  (fun q => q.2.2 ≤ s.size ∧ q.1 ≤ N ∧ szL q.2.1 + 2 * (rst s q.2.2).length ≤ 2 * (rst s i).length ∧ pC q.1 q.2.1 (rst s q.2.2) = T) (fun q => q.1) ?_ (N, [], i) ⟨hi, Nat.le_refl _, by simp [szL], hT0⟩) rfl rfl
 clear hT0 hn
 rintro ⟨m, acc, j⟩ ⟨i1, i2, i3, i4⟩ ih
 simp only at i1 i2 i3 i4 ih ⊢
 cases m with
 | zero => rw [pC] at i4; exact absurd i4.symm hne
 | succ m =>
 rw [pC] at i4
 have hal := z7e acc
 have hrg := zhv s j
 by_cases hend : nx (rst s j) < 0 ∨ nx (rst s j) = 124 ∨ nx (rst s j) = 41
 · rw [if_pos hend] at i4
   rw [← i4, z4k i1]
   by_cases h1 : acc.length = 1
   · obtain ⟨x, rfl⟩ := List.length_eq_one_iff.1 h1
     obtain ⟨op, mn, mx, rs, ks⟩ := x
     rw [show fin 2 [Rx.mk op mn mx rs ks] = Rx.mk op mn mx rs ks from rfl, z8m, z65, List.map_cons, List.map_nil, z2j]
     clear ih
     refine z4u 1000 rfl ?_
     repeat' (first | (apply z0e; (first | refine z13 rfl (by decide) ?_ | (apply z09; (refine z00 (z0w rfl rfl) rfl rfl (by decide) ?_)) | (apply z1c; (refine z00 (z0t (u := rx5 op mn mx rs ks) rfl (by omega) rfl rfl) rfl rfl (by decide) ?_)) | (apply z1k; (refine z00 (zns rfl) rfl rfl (by decide) ?_)) | (apply z0i; (refine z0b rfl rfl rfl rfl rfl rfl ?_)))) | (apply z0f; (first | refine z0z ?_ | apply z0c | refine z2e rfl rfl (by decide) ?_ | refine z0u rfl rfl (fun _ => ?_) (fun _ => ?_) | refine z3h rfl rfl (fun _ => ?_) (fun _ => ?_))) | (apply z0d; (first | apply z0h | apply z01 | refine z0o rfl ?_ | refine z0g rfl ?_ | apply z06 | apply z02 | refine z2w rfl (fun _ => ?_) (fun _ => ?_) | refine z0r rfl ?_)))
     all_goals try (exfalso; omega)
     all_goals ((repeat rw [z0x]); first | exact z07 Tryz.func32 _ (z0m rfl rfl rfl rfl rfl rfl rfl) ⟨rfl, rfl⟩ | exact z07 Tryz.func32 _ (z1h rfl rfl rfl) ⟨rfl, rfl⟩ | exact z07 Tryz.func32 _ (z0a rfl rfl) ⟨rfl, rfl⟩ | exact z07 Tryz.func32 _ (z11 rfl rfl rfl rfl) ⟨rfl, rfl⟩)
   · rw [zjh h1, z8m, z65]
     clear ih
     refine z4u 1000 rfl ?_
     repeat' (first | (apply z0e; (first | refine z13 rfl (by decide) ?_ | (apply z1k; (refine z00 (z1p rfl) rfl rfl (by decide) ?_)) | (apply z0i; (refine z0b rfl rfl rfl rfl rfl rfl ?_)) | (apply z1i; (refine z1j rfl rfl rfl rfl rfl rfl rfl (by decide) ?_)))) | (apply z0f; (first | refine z0z ?_ | apply z0c | refine z2e rfl rfl (by decide) ?_ | refine z0u rfl rfl (fun _ => ?_) (fun _ => ?_) | refine z3h rfl rfl (fun _ => ?_) (fun _ => ?_))) | (apply z0d; (first | apply z0h | apply z01 | refine z0g rfl ?_ | apply z06 | apply z02 | refine z1o rfl (fun _ => ?_) (fun _ => ?_) | refine z2w rfl (fun _ => ?_) (fun _ => ?_) | refine z0r rfl ?_)))
     all_goals try (exfalso; omega)
     all_goals ((repeat rw [z0x]); first | exact z07 Tryz.func32 _ (z0m rfl rfl rfl rfl rfl rfl rfl) ⟨rfl, rfl⟩ | exact z07 Tryz.func32 _ (z1h rfl rfl rfl) ⟨rfl, rfl⟩ | exact z07 Tryz.func32 _ (z0a rfl rfl) ⟨rfl, rfl⟩ | exact z07 Tryz.func32 _ (z11 rfl rfl rfl rfl) ⟨rfl, rfl⟩)
 · rw [if_neg hend] at i4
   have hr := hR m (by omega) j i1 (by omega) (e0 + 1) (fun h => hne (by rw [← i4, h]))
   have hsf := ((zdi m).2.2.1 (rst s j)).1
   have hsz := (zun m).2.2.1 (rst s j)
   rcases hp : pR m (rst s j) with ⟨e, r⟩ | ⟨a, b⟩ | _
   · rw [hp] at hr hsf hsz i4
     obtain ⟨k, hk1, hk, rfl⟩ := z5p s _ j r (Nat.le_refl _) i1 hsf
     rw [z4k hk] at hr
     have hsz := hsz e _ rfl
     simp only at i4
     have hn := z4t (X := X) τ s k hk 0 0 (e0 + 1)
     have hfl := ze3 2 e
     have hfa := zbe acc (flat 2 e)
     obtain ⟨op, mn, mx, rs, ks⟩ := e
     rw [z8m, z65] at hr
     have hks := z7e ks
     have ih' := ih (m, acc ++ flat 2 (.mk op mn mx rs ks), k) ⟨hk, by simp only; omega, by simp only; omega, i4⟩ (by simp only; omega)
     by_cases h2 : op = 2
     · have hf2 : flat 2 (Rx.mk op mn mx rs ks) = ks := by simp [flat, Rx.op, Rx.ks, h2]
       rw [hf2] at ih' hfl
       simp only at ih'
       subst h2
       have hn2 := hn
       repeat' (first | (apply z0e; (first | refine z13 rfl (by decide) ?_ | (apply z09; (refine z00 (z0k rfl rfl rfl rfl) rfl rfl (by decide) ?_)) | (apply z08; (refine z00 (z03 rfl rfl) rfl rfl (by decide) ?_)) | (apply z1k; (first | refine za6 (g := rxc) rfl rfl rfl rfl rfl z5d rfl rfl (by decide) (by omega) ?_ | refine z00 (z2k rfl) rfl rfl (by decide) ?_)) | (apply z0l; (first | refine z1l hr rfl (z05 _ (e0, X) _) (bkT (by repeat (first | exact hT | refine HT.upd ?_ hX0 hX1))) (by decide) ?_ | refine z15 hn2 rfl (z0s (m := (e0 + 1, X)) (z05 _ (e0, X) _) (bkT (by repeat (first | exact hT | refine HT.upd ?_ hX0 hX1)))) (by decide) ?_)) | (apply z0i; (refine z0b rfl rfl rfl rfl rfl rfl ?_)) | (apply z0q; (refine z0j (z0p rfl rfl (by decide)) ?_)))) | (apply z0f; (first | refine z0z ?_ | apply z0c | refine z2e rfl rfl (by decide) ?_ | refine z0u rfl rfl (fun _ => ?_) (fun _ => ?_) | refine z3h rfl rfl (fun _ => ?_) (fun _ => ?_))) | (apply z0d; (first | apply z0h | apply z01 | refine z0o rfl ?_ | refine z0g rfl ?_ | apply z06 | apply z02 | apply z04 | refine z1o rfl (fun _ => ?_) (fun _ => ?_) | refine z2w rfl (fun _ => ?_) (fun _ => ?_) | refine z0r rfl ?_)))
       all_goals try (exfalso; omega)
       all_goals ((repeat rw [z0x]); refine z73 36 1000 rfl rfl ?_; exact z0y ih' rfl rfl)
     · have hf2 : flat 2 (Rx.mk op mn mx rs ks) = [Rx.mk op mn mx rs ks] := by simp [flat, Rx.op, h2]
       rw [hf2] at ih'
       simp only at ih'
       have hn2 := hn
       repeat' (first | (apply z0e; (first | refine z13 rfl (by decide) ?_ | (apply z09; (first | refine z00 (z0k rfl rfl rfl rfl) rfl rfl (by decide) ?_ | refine z00 (z1a rfl rfl rfl rfl) rfl rfl (by decide) ?_)) | (apply z08; (refine z00 (z03 rfl rfl) rfl rfl (by decide) ?_)) | (apply z1k; (first | refine z4s (g := rxc) rfl rfl (Rx.mk op mn mx rs ks) (by rw [z2j]; rfl) rfl rfl rfl (z5d _) rfl rfl (by decide) (by omega) ?_ | refine za6 (g := rxc) rfl rfl rfl rfl rfl z5d rfl rfl (by decide) (by omega) ?_ | refine z00 (z2k rfl) rfl rfl (by decide) ?_)) | (apply z0l; (first | refine z1l hr rfl (z05 _ (e0, X) _) (bkT (by repeat (first | exact hT | refine HT.upd ?_ hX0 hX1))) (by decide) ?_ | refine z15 hn2 rfl (z0s (m := (e0 + 1, X)) (z05 _ (e0, X) _) (bkT (by repeat (first | exact hT | refine HT.upd ?_ hX0 hX1)))) (by decide) ?_)) | (apply z0i; (refine z0b rfl rfl rfl rfl rfl rfl ?_)) | (apply z0q; (refine z0j (z0p rfl rfl (by decide)) ?_)) | (apply z3p; (refine z3n rfl rfl rfl rfl rfl rfl rfl rfl (by decide) ?_)))) | (apply z0f; (first | refine z0z ?_ | apply z0c | refine z2e rfl rfl (by decide) ?_ | refine z0u rfl rfl (fun _ => ?_) (fun _ => ?_) | refine z3h rfl rfl (fun _ => ?_) (fun _ => ?_))) | (apply z0d; (first | apply z0h | apply z01 | refine z0g rfl ?_ | apply z06 | apply z02 | apply z04 | refine z1o rfl (fun _ => ?_) (fun _ => ?_) | refine z2w rfl (fun _ => ?_) (fun _ => ?_) | refine z0r rfl ?_)))
       all_goals try (exfalso; omega)
       all_goals ((repeat rw [z0x]); refine z73 40 1000 rfl rfl ?_; exact z0y ih' rfl rfl)
   · rw [hp] at hr i4
     simp only at i4
     rw [← i4, z8m, z4w]
     rw [z8m, z4w] at hr
     repeat' (first | (apply z0e; (first | refine z13 rfl (by decide) ?_ | (apply z1k; (refine z00 (z2k rfl) rfl rfl (by decide) ?_)) | (apply z0l; (refine z1l hr rfl (z05 _ (e0, X) _) (bkT (by repeat (first | exact hT | refine HT.upd ?_ hX0 hX1))) (by decide) ?_)) | (apply z0i; (refine z0b rfl rfl rfl rfl rfl rfl ?_)) | (apply z0q; (refine z0j (z0p rfl rfl (by decide)) ?_)) | (apply z1i; (refine z1j rfl rfl rfl rfl rfl rfl rfl (by decide) ?_)))) | (apply z0f; (first | refine z0z ?_ | apply z0c | refine z2e rfl rfl (by decide) ?_ | refine z0u rfl rfl (fun _ => ?_) (fun _ => ?_) | refine z3h rfl rfl (fun _ => ?_) (fun _ => ?_))) | (apply z0d; (first | apply z0h | apply z01 | refine z0o rfl ?_ | refine z0g rfl ?_ | apply z06 | apply z02 | refine z1o rfl (fun _ => ?_) (fun _ => ?_) | refine z2w rfl (fun _ => ?_) (fun _ => ?_) | refine z0r rfl ?_)))
     all_goals try (exfalso; omega)
     all_goals ((repeat rw [z0x]); first | exact z07 Tryz.func32 _ (z0m rfl rfl rfl rfl rfl rfl rfl) ⟨rfl, rfl⟩ | exact z07 Tryz.func32 _ (z1h rfl rfl rfl) ⟨rfl, rfl⟩ | exact z07 Tryz.func32 _ (z0a rfl rfl) ⟨rfl, rfl⟩ | exact z07 Tryz.func32 _ (z11 rfl rfl rfl rfl) ⟨rfl, rfl⟩)
   · rw [hp] at i4; exact absurd i4.symm hne
end
end Go.Proofs.YtjmbjgecfpggdaaGreatDoor
namespace Go.Proofs.YtjmbjgecfpggdaaGreatDoor
open Go.Ab Go.Rx
set_option maxHeartbeats 20000000
set_option maxRecDepth 100000
attribute [local irreducible] Run Ops Op1 z2r Val Tr z1n z36 NF Rel z5q z5r
section
variable {X : Nat} (hX0 : X ≠ 700) (hX1 : X ≠ 701) (τ : Tab) (s : ByteArray) (hs : s.size ≤ 1000000)
include hX0 hX1 hs
theorem zrj (N : Nat) (hC : ∀ m, m < N → HC X τ s m) : HU X τ s N := by
 intro i hi e0 hne
 refine z42 fun H hH => ?_
 have hX : H e0 X = some (pbx s i 0 0) := hH ((e0, X), pbx s i 0 0) (by simp)
 have hT : HT τ (e0 + 1) H := HT.of (bs := [((e0, X), pbx s i 0 0)]) hH
 refine z16 Tryz.func15 (by kernel_rfl) rfl (by simp) ?_
 dsimp only [Tryz.f15]
 have hil := z9j s _ i (Nat.le_refl _)
 obtain ⟨T, hT0⟩ : ∃ T, pU N [] (rst s i) = T := ⟨_, rfl⟩
 rw [hT0] at hne ⊢
 repeat' (first | (apply z0e; (first | refine z13 rfl (by decide) ?_ | (apply z0q; (refine z0j (z0p rfl rfl (by decide)) ?_)))) | (apply z0f; (first | refine z0z ?_ | apply z0c)) | (apply z0d; (first | apply z0h | apply z01 | apply z02)))
 all_goals try (exfalso; omega)
 refine z4l 4 1000 25 5 rfl rfl rfl ?_
 refine z2b ?_
 refine zjl (m := (e0, X)) hX ?_
 refine z0y (z3e (fun q : Nat × List Rx × Nat => ⟨44, [(0, .ptr (e0 + 1, X) 0), (2, .ptr (0, 2) 0), (4, .ref (0, 1000))], [(1000, .row 25 5 (q.2.1.map rxc)), (2, .box (z6l [Value.int .i64 0, Value.int .i64 0, Value.int .i64 0, z57, z57]))], upd H (e0, X) (pbx s (q.2.2 : Nat) 0 0)⟩)
  (fun q => q.2.2 ≤ s.size ∧ q.1 ≤ N ∧ szL q.2.1 + 2 * (rst s q.2.2).length ≤ 2 * (rst s i).length ∧ pU q.1 q.2.1 (rst s q.2.2) = T) (fun q => q.1) ?_ (N, [], i) ⟨hi, Nat.le_refl _, by simp [szL], hT0⟩) rfl rfl
 clear hT0
 rintro ⟨m, acc, j⟩ ⟨i1, i2, i3, i4⟩ ih
 simp only at i1 i2 i3 i4 ih ⊢
 cases m with
 | zero => rw [pU] at i4; exact absurd i4.symm hne
 | succ m =>
 rw [pU] at i4
 have hal := z7e acc
 have hr := hC m (by omega) j i1 (e0 + 1) (fun h => hne (by rw [← i4, h]))
 have hsf := (zdi m).2.1 [] (rst s j)
 have hsz := (zun m).2.1 [] (rst s j)
 rcases hp : pC m [] (rst s j) with ⟨e, r⟩ | ⟨a, b⟩ | _
 · rw [hp] at hr hsf hsz i4
   obtain ⟨k, hk1, hk, rfl⟩ := z5p s _ j r (Nat.le_refl _) i1 hsf
   rw [z4k hk] at hr
   have hsz := hsz e _ rfl
   simp only [szL] at i4 hsz
   have hn := z4t (X := X) τ s k hk 0 0 (e0 + 1)
   have hfl := ze3 3 e
   have hfa := zbe acc (flat 3 e)
   have hjl := z9j s _ j (Nat.le_refl _)
   obtain ⟨op, mn, mx, rs, ks⟩ := e
   rw [z8m, z65] at hr
   have hks := z7e ks
   by_cases h124 : nx (rst s k) = 124
   · rw [if_pos h124] at i4
     obtain ⟨hkl, htk, hek⟩ := z2u hk h124 (by decide) (by decide)
     have hkk := z61 h124 (by decide)
     rw [htk] at i4 hkk
     have ih' := ih (m, acc ++ flat 3 (.mk op mn mx rs ks), k + 1) ⟨hkl, by simp only; omega, by simp only; omega, i4⟩ (by simp only; omega)
     by_cases h2 : op = 3
     · have hf2 : flat 3 (Rx.mk op mn mx rs ks) = ks := by simp [flat, Rx.op, Rx.ks, h2]
       rw [hf2] at ih' hfl
       simp only at ih'
       subst h2
       repeat' (first | (apply z0e; (first | refine z13 rfl (by decide) ?_ | (apply z09; (first | refine z14 rfl (z05 _ (e0, X) _) rfl rfl rfl rfl (by decide) ?_ | refine z00 (z0k rfl rfl rfl rfl) rfl rfl (by decide) ?_)) | (apply z08; (refine z00 (z03 rfl rfl) rfl rfl (by decide) ?_)) | (apply z19; (refine z00 (z1e (z1s (by omega) (by omega))) rfl rfl (by decide) ?_)) | (apply z1k; (first | refine za6 (g := rxc) rfl rfl rfl rfl rfl z5d rfl rfl (by decide) (by omega) ?_ | refine z00 (z2k rfl) rfl rfl (by decide) ?_)) | (apply z0l; (first | refine z1l hr rfl (z05 _ (e0, X) _) (bkT (by repeat (first | exact hT | refine HT.upd ?_ hX0 hX1))) (by decide) ?_ | refine z15 hn rfl (z0s (m := (e0 + 1, X)) (z05 _ (e0, X) _) (bkT (by repeat (first | exact hT | refine HT.upd ?_ hX0 hX1)))) (by decide) ?_)) | (apply z0i; (first | refine z18 (raw' := pbx s ((k + 1 : Nat) : Int) 0 0) rfl (z05 _ (e0, X) _) rfl rfl rfl rfl rfl rfl ?_ | refine z0b rfl rfl rfl rfl rfl rfl ?_)) | (apply z0q; (refine z0j (z0p rfl rfl (by decide)) ?_)))) | (apply z0f; (first | refine z0z ?_ | apply z0c)) | (apply z0d; (first | apply z0h | apply z01 | refine z0o rfl ?_ | refine z0g rfl ?_ | apply z06 | apply z02 | apply z04 | refine z1o rfl (fun _ => ?_) (fun _ => ?_) | refine z2w rfl (fun _ => ?_) (fun _ => ?_) | refine z0r rfl ?_)))
       all_goals try (exfalso; omega)
       all_goals ((repeat rw [z0x]); refine z73 21 1000 rfl rfl ?_; exact z0y ih' rfl rfl)
     · have hf2 : flat 3 (Rx.mk op mn mx rs ks) = [Rx.mk op mn mx rs ks] := by simp [flat, Rx.op, h2]
       rw [hf2] at ih'
       simp only at ih'
       repeat' (first | (apply z0e; (first | refine z13 rfl (by decide) ?_ | (apply z09; (first | refine z14 rfl (z05 _ (e0, X) _) rfl rfl rfl rfl (by decide) ?_ | refine z00 (z0k rfl rfl rfl rfl) rfl rfl (by decide) ?_ | refine z00 (z1a rfl rfl rfl rfl) rfl rfl (by decide) ?_)) | (apply z08; (refine z00 (z03 rfl rfl) rfl rfl (by decide) ?_)) | (apply z19; (refine z00 (z1e (z1s (by omega) (by omega))) rfl rfl (by decide) ?_)) | (apply z1k; (first | refine z4s (g := rxc) rfl rfl (Rx.mk op mn mx rs ks) (by rw [z2j]; rfl) rfl rfl rfl (z5d _) rfl rfl (by decide) (by omega) ?_ | refine za6 (g := rxc) rfl rfl rfl rfl rfl z5d rfl rfl (by decide) (by omega) ?_ | refine z00 (z2k rfl) rfl rfl (by decide) ?_)) | (apply z0l; (first | refine z1l hr rfl (z05 _ (e0, X) _) (bkT (by repeat (first | exact hT | refine HT.upd ?_ hX0 hX1))) (by decide) ?_ | refine z15 hn rfl (z0s (m := (e0 + 1, X)) (z05 _ (e0, X) _) (bkT (by repeat (first | exact hT | refine HT.upd ?_ hX0 hX1)))) (by decide) ?_)) | (apply z0i; (first | refine z18 (raw' := pbx s ((k + 1 : Nat) : Int) 0 0) rfl (z05 _ (e0, X) _) rfl rfl rfl rfl rfl rfl ?_ | refine z0b rfl rfl rfl rfl rfl rfl ?_)) | (apply z0q; (refine z0j (z0p rfl rfl (by decide)) ?_)) | (apply z3p; (refine z3n rfl rfl rfl rfl rfl rfl rfl rfl (by decide) ?_)))) | (apply z0f; (first | refine z0z ?_ | apply z0c)) | (apply z0d; (first | apply z0h | apply z01 | refine z0g rfl ?_ | apply z06 | apply z02 | apply z04 | refine z1o rfl (fun _ => ?_) (fun _ => ?_) | refine z2w rfl (fun _ => ?_) (fun _ => ?_) | refine z0r rfl ?_)))
       all_goals try (exfalso; omega)
       all_goals ((repeat rw [z0x]); refine z73 25 1000 rfl rfl ?_; exact z0y ih' rfl rfl)
   · rw [if_neg h124] at i4
     clear ih
     by_cases h2 : op = 3
     · have hf2 : flat 3 (Rx.mk op mn mx rs ks) = ks := by simp [flat, Rx.op, Rx.ks, h2]
       rw [hf2] at i4 hfl
       subst h2
       by_cases h1 : (acc ++ ks).length = 1
       · obtain ⟨x, hx⟩ := List.length_eq_one_iff.1 h1
         rw [hx] at i4
         obtain ⟨op', mn', mx', rs', ks'⟩ := x
         rw [← i4, z4k hk, show fin 3 [Rx.mk op' mn' mx' rs' ks'] = Rx.mk op' mn' mx' rs' ks' from rfl, z8m, z65]
         repeat' (first | (apply z0e; (first | refine z13 rfl (by decide) ?_ | (apply z09; (first | refine z14 rfl (z05 _ (e0, X) _) rfl rfl rfl rfl (by decide) ?_ | refine z00 (z0k rfl rfl rfl rfl) rfl rfl (by decide) ?_ | refine z00 (z0w rfl rfl) rfl rfl (by decide) ?_)) | (apply z08; (refine z00 (z03 rfl rfl) rfl rfl (by decide) ?_)) | (apply z1c; (refine z00 (z0t (u := rx5 op' mn' mx' rs' ks') rfl (by omega) rfl rfl) rfl rfl (by decide) ?_)) | (apply z19; (refine z00 (z1e (z1s (by omega) (by omega))) rfl rfl (by decide) ?_)) | (apply z1k; (first | refine za6 (g := rxc) rfl rfl rfl rfl rfl z5d rfl rfl (by decide) (by omega) ?_ | refine z00 (zns rfl) rfl rfl (by decide) ?_)) | (apply z0l; (first | (refine z15 hn rfl (z0s (m := (e0 + 1, X)) (z05 _ (e0, X) _) (bkT (by repeat (first | exact hT | refine HT.upd ?_ hX0 hX1)))) (by decide) ?_; refine z90 21 rfl ?_; rw [hx, List.map_cons, List.map_nil, z2j]) | refine z1l hr rfl (z05 _ (e0, X) _) (bkT (by repeat (first | exact hT | refine HT.upd ?_ hX0 hX1))) (by decide) ?_)) | (apply z0i; (first | refine z18 (raw' := pbx s ((k + 1 : Nat) : Int) 0 0) rfl (z05 _ (e0, X) _) rfl rfl rfl rfl rfl rfl ?_ | refine z0b rfl rfl rfl rfl rfl rfl ?_)) | (apply z0q; (refine z0j (z0p rfl rfl (by decide)) ?_)))) | (apply z0f; (first | refine z0z ?_ | apply z0c)) | (apply z0d; (first | apply z0h | apply z01 | refine z0o rfl ?_ | refine z0g rfl ?_ | apply z06 | apply z02 | apply z04 | refine z2w rfl (fun _ => ?_) (fun _ => ?_) | refine z0r rfl ?_)))
         all_goals try (exfalso; omega)
         all_goals ((repeat rw [z0x]); first | exact z07 Tryz.func15 _ (z0m rfl rfl rfl rfl rfl rfl rfl) ⟨rfl, rfl⟩ | exact z07 Tryz.func15 _ (z1h rfl rfl rfl) ⟨rfl, rfl⟩ | exact z07 Tryz.func15 _ (z0a rfl rfl) ⟨rfl, rfl⟩ | exact z07 Tryz.func15 _ (z11 rfl rfl rfl rfl) ⟨rfl, rfl⟩)
       · rw [zjh h1] at i4
         rw [← i4, z4k hk, z8m, z65]
         repeat' (first | (apply z0e; (first | refine z13 rfl (by decide) ?_ | (apply z09; (first | refine z14 rfl (z05 _ (e0, X) _) rfl rfl rfl rfl (by decide) ?_ | refine z00 (z0k rfl rfl rfl rfl) rfl rfl (by decide) ?_)) | (apply z08; (refine z00 (z03 rfl rfl) rfl rfl (by decide) ?_)) | (apply z19; (refine z00 (z1e (z1s (by omega) (by omega))) rfl rfl (by decide) ?_)) | (apply z1k; (first | refine za6 (g := rxc) rfl rfl rfl rfl rfl z5d rfl rfl (by decide) (by omega) ?_ | refine z00 (z1p rfl) rfl rfl (by decide) ?_)) | (apply z0l; (first | (refine z15 hn rfl (z0s (m := (e0 + 1, X)) (z05 _ (e0, X) _) (bkT (by repeat (first | exact hT | refine HT.upd ?_ hX0 hX1)))) (by decide) ?_; refine z90 21 rfl ?_) | refine z1l hr rfl (z05 _ (e0, X) _) (bkT (by repeat (first | exact hT | refine HT.upd ?_ hX0 hX1))) (by decide) ?_)) | (apply z0i; (first | refine z18 (raw' := pbx s ((k + 1 : Nat) : Int) 0 0) rfl (z05 _ (e0, X) _) rfl rfl rfl rfl rfl rfl ?_ | refine z0b rfl rfl rfl rfl rfl rfl ?_)) | (apply z0q; (refine z0j (z0p rfl rfl (by decide)) ?_)) | (apply z1i; (refine z1j rfl rfl rfl rfl rfl rfl rfl (by decide) ?_)))) | (apply z0f; (first | refine z0z ?_ | apply z0c)) | (apply z0d; (first | apply z0h | apply z01 | refine z0o rfl ?_ | refine z0g rfl ?_ | apply z06 | apply z02 | apply z04 | refine z1o rfl (fun _ => ?_) (fun _ => ?_) | refine z2w rfl (fun _ => ?_) (fun _ => ?_) | refine z0r rfl ?_)))
         all_goals try (exfalso; omega)
         all_goals ((repeat rw [z0x]); first | exact z07 Tryz.func15 _ (z0m rfl rfl rfl rfl rfl rfl rfl) ⟨rfl, rfl⟩ | exact z07 Tryz.func15 _ (z1h rfl rfl rfl) ⟨rfl, rfl⟩ | exact z07 Tryz.func15 _ (z0a rfl rfl) ⟨rfl, rfl⟩ | exact z07 Tryz.func15 _ (z11 rfl rfl rfl rfl) ⟨rfl, rfl⟩)
     · have hf2 : flat 3 (Rx.mk op mn mx rs ks) = [Rx.mk op mn mx rs ks] := by simp [flat, Rx.op, h2]
       rw [hf2] at i4
       by_cases h1 : (acc ++ [Rx.mk op mn mx rs ks]).length = 1
       · obtain ⟨x, hx⟩ := List.length_eq_one_iff.1 h1
         rw [hx] at i4
         obtain ⟨op', mn', mx', rs', ks'⟩ := x
         rw [← i4, z4k hk, show fin 3 [Rx.mk op' mn' mx' rs' ks'] = Rx.mk op' mn' mx' rs' ks' from rfl, z8m, z65]
         repeat' (first | (apply z0e; (first | refine z13 rfl (by decide) ?_ | (apply z09; (first | refine z14 rfl (z05 _ (e0, X) _) rfl rfl rfl rfl (by decide) ?_ | refine z00 (z0k rfl rfl rfl rfl) rfl rfl (by decide) ?_ | refine z00 (z0w rfl rfl) rfl rfl (by decide) ?_ | refine z00 (z1a rfl rfl rfl rfl) rfl rfl (by decide) ?_)) | (apply z08; (refine z00 (z03 rfl rfl) rfl rfl (by decide) ?_)) | (apply z1c; (refine z00 (z0t (u := rx5 op' mn' mx' rs' ks') rfl (by omega) rfl rfl) rfl rfl (by decide) ?_)) | (apply z19; (refine z00 (z1e (z1s (by omega) (by omega))) rfl rfl (by decide) ?_)) | (apply z1k; (first | refine z4s (g := rxc) rfl rfl (Rx.mk op mn mx rs ks) (by rw [z2j]; rfl) rfl rfl rfl (z5d _) rfl rfl (by decide) (by omega) ?_ | refine za6 (g := rxc) rfl rfl rfl rfl rfl z5d rfl rfl (by decide) (by omega) ?_ | refine z00 (zns rfl) rfl rfl (by decide) ?_ | refine z00 (z2k rfl) rfl rfl (by decide) ?_)) | (apply z0l; (first | (refine z15 hn rfl (z0s (m := (e0 + 1, X)) (z05 _ (e0, X) _) (bkT (by repeat (first | exact hT | refine HT.upd ?_ hX0 hX1)))) (by decide) ?_; refine z90 25 rfl ?_; rw [hx, List.map_cons, List.map_nil, z2j]) | refine z1l hr rfl (z05 _ (e0, X) _) (bkT (by repeat (first | exact hT | refine HT.upd ?_ hX0 hX1))) (by decide) ?_ | refine z15 hn rfl (z0s (m := (e0 + 1, X)) (z05 _ (e0, X) _) (bkT (by repeat (first | exact hT | refine HT.upd ?_ hX0 hX1)))) (by decide) ?_)) | (apply z0i; (first | refine z18 (raw' := pbx s ((k + 1 : Nat) : Int) 0 0) rfl (z05 _ (e0, X) _) rfl rfl rfl rfl rfl rfl ?_ | refine z0b rfl rfl rfl rfl rfl rfl ?_)) | (apply z0q; (refine z0j (z0p rfl rfl (by decide)) ?_)) | (apply z3p; (refine z3n rfl rfl rfl rfl rfl rfl rfl rfl (by decide) ?_)))) | (apply z0f; (first | refine z0z ?_ | apply z0c)) | (apply z0d; (first | apply z0h | apply z01 | refine z0o rfl ?_ | refine z0g rfl ?_ | apply z06 | apply z02 | apply z04 | refine z1o rfl (fun _ => ?_) (fun _ => ?_) | refine z2w rfl (fun _ => ?_) (fun _ => ?_) | refine z0r rfl ?_)))
         all_goals try (exfalso; omega)
         all_goals ((repeat rw [z0x]); first | exact z07 Tryz.func15 _ (z0m rfl rfl rfl rfl rfl rfl rfl) ⟨rfl, rfl⟩ | exact z07 Tryz.func15 _ (z1h rfl rfl rfl) ⟨rfl, rfl⟩ | exact z07 Tryz.func15 _ (z0a rfl rfl) ⟨rfl, rfl⟩ | exact z07 Tryz.func15 _ (z11 rfl rfl rfl rfl) ⟨rfl, rfl⟩)
       · rw [zjh h1] at i4
         rw [← i4, z4k hk, z8m, z65]
         repeat' (first | (apply z0e; (first | refine z13 rfl (by decide) ?_ | (apply z09; (first | refine z14 rfl (z05 _ (e0, X) _) rfl rfl rfl rfl (by decide) ?_ | refine z00 (z0k rfl rfl rfl rfl) rfl rfl (by decide) ?_ | refine z00 (z1a rfl rfl rfl rfl) rfl rfl (by decide) ?_)) | (apply z08; (refine z00 (z03 rfl rfl) rfl rfl (by decide) ?_)) | (apply z19; (refine z00 (z1e (z1s (by omega) (by omega))) rfl rfl (by decide) ?_)) | (apply z1k; (first | refine z4s (g := rxc) rfl rfl (Rx.mk op mn mx rs ks) (by rw [z2j]; rfl) rfl rfl rfl (z5d _) rfl rfl (by decide) (by omega) ?_ | refine za6 (g := rxc) rfl rfl rfl rfl rfl z5d rfl rfl (by decide) (by omega) ?_ | refine z00 (z1p rfl) rfl rfl (by decide) ?_ | refine z00 (z2k rfl) rfl rfl (by decide) ?_)) | (apply z0l; (first | (refine z15 hn rfl (z0s (m := (e0 + 1, X)) (z05 _ (e0, X) _) (bkT (by repeat (first | exact hT | refine HT.upd ?_ hX0 hX1)))) (by decide) ?_; refine z90 25 rfl ?_) | refine z1l hr rfl (z05 _ (e0, X) _) (bkT (by repeat (first | exact hT | refine HT.upd ?_ hX0 hX1))) (by decide) ?_ | refine z15 hn rfl (z0s (m := (e0 + 1, X)) (z05 _ (e0, X) _) (bkT (by repeat (first | exact hT | refine HT.upd ?_ hX0 hX1)))) (by decide) ?_)) | (apply z0i; (first | refine z18 (raw' := pbx s ((k + 1 : Nat) : Int) 0 0) rfl (z05 _ (e0, X) _) rfl rfl rfl rfl rfl rfl ?_ | refine z0b rfl rfl rfl rfl rfl rfl ?_)) | (apply z0q; (refine z0j (z0p rfl rfl (by decide)) ?_)) | (apply z1i; (refine z1j rfl rfl rfl rfl rfl rfl rfl (by decide) ?_)) | (apply z3p; (refine z3n rfl rfl rfl rfl rfl rfl rfl rfl (by decide) ?_)))) | (apply z0f; (first | refine z0z ?_ | apply z0c)) | (apply z0d; (first | apply z0h | apply z01 | refine z0g rfl ?_ | apply z06 | apply z02 | apply z04 | refine z1o rfl (fun _ => ?_) (fun _ => ?_) | refine z2w rfl (fun _ => ?_) (fun _ => ?_) | refine z0r rfl ?_)))
         all_goals try (exfalso; omega)
         all_goals ((repeat rw [z0x]); first | exact z07 Tryz.func15 _ (z0m rfl rfl rfl rfl rfl rfl rfl) ⟨rfl, rfl⟩ | exact z07 Tryz.func15 _ (z1h rfl rfl rfl) ⟨rfl, rfl⟩ | exact z07 Tryz.func15 _ (z0a rfl rfl) ⟨rfl, rfl⟩ | exact z07 Tryz.func15 _ (z11 rfl rfl rfl rfl) ⟨rfl, rfl⟩)
 · rw [hp] at hr i4
   simp only at i4
   rw [← i4, z8m, z4w]
   rw [z8m, z4w] at hr
   repeat' (first | (apply z0e; (first | refine z13 rfl (by decide) ?_ | (apply z0l; (refine z1l hr rfl (z05 _ (e0, X) _) (bkT (by repeat (first | exact hT | refine HT.upd ?_ hX0 hX1))) (by decide) ?_)) | (apply z0i; (refine z0b rfl rfl rfl rfl rfl rfl ?_)) | (apply z0q; (refine z0j (z0p rfl rfl (by decide)) ?_)) | (apply z1i; (refine z1j rfl rfl rfl rfl rfl rfl rfl (by decide) ?_)))) | (apply z0f; (first | refine z0z ?_ | apply z0c)) | (apply z0d; (first | apply z0h | apply z01 | refine z0o rfl ?_ | apply z02)))
   all_goals try (exfalso; omega)
   all_goals ((repeat rw [z0x]); first | exact z07 Tryz.func15 _ (z0m rfl rfl rfl rfl rfl rfl rfl) ⟨rfl, rfl⟩ | exact z07 Tryz.func15 _ (z1h rfl rfl rfl) ⟨rfl, rfl⟩ | exact z07 Tryz.func15 _ (z0a rfl rfl) ⟨rfl, rfl⟩ | exact z07 Tryz.func15 _ (z11 rfl rfl rfl rfl) ⟨rfl, rfl⟩)
 · rw [hp] at i4; exact absurd i4.symm hne
theorem zr1 (N : Nat) : HU X τ s N := by
 induction N using Nat.strongRecOn with
 | _ N ih =>
  refine zrj hX0 hX1 τ s hs N fun m hm => zmi hX0 hX1 τ s hs m fun k hk => ?_
  match k, hk with
  | 0, _ => intro i hi h0 e0 h; exact absurd (by rw [pR]) h
  | 1, _ => intro i hi h0 e0 h; exact absurd (by rw [pR, pA]) h
  | k + 2, hk => exact zno hX0 hX1 τ s hs k (zu0 hX0 hX1 τ s hs k (ih k (by omega)))
end
end Go.Proofs.YtjmbjgecfpggdaaGreatDoor
namespace Go.Proofs.YtjmbjgecfpggdaaGreatDoor
open Go.Ab Go.Rx
set_option maxHeartbeats 20000000
set_option maxRecDepth 100000
attribute [local irreducible] Run Ops Op1 z2r Val Tr z1n z36 NF Rel z5q z5r
theorem zt4 (N : Nat) (hN : N ≤ 9223372036854775807) : (∀ e : Rx, sz e ≤ N → Rx.rsB N e → fit e) ∧ ∀ l : List Rx, szL l ≤ N → zd6 N l → zcv l := by
 refine Rx.ind (fun op mn mx rs ks ih h1 h2 => ?_) (fun _ _ => by rw [zcv]; trivial) (fun k ks ihk ih h1 h2 => ?_)
 · rw [sz] at h1
   rw [Rx.rsB] at h2
   have := z7e ks
   rw [fit]
   exact ⟨by omega, by omega, ih (by omega) h2.2⟩
 · rw [szL] at h1
   rw [zd6] at h2
   rw [zcv]
   exact ⟨ihk (by omega) h2.1, ih (by omega) h2.2⟩
theorem zsr {C D : Nat} (h : C ≤ D) : ∀ {e : Rx}, Rx.rsB C e → Rx.rsB D e :=
 fun {e} => (Rx.ind (p := fun e => Rx.rsB C e → Rx.rsB D e) (q := fun l => zd6 C l → zd6 D l) (fun op mn mx rs ks ih h1 => by
  rw [Rx.rsB] at h1 ⊢; exact ⟨Nat.le_trans h1.1 h, ih h1.2⟩) (fun _ => by rw [zd6]; trivial) (fun k ks ihk ih h1 => by
  rw [zd6] at h1 ⊢; exact ⟨ihk h1.1, ih h1.2⟩)).1 e
theorem zed {P : Program} {f : FuncId} {R : z3s} {k : List Item} {all : Array Oper} {l : List Oper} {n : Nat} {tm : List (Nat × PV)} {hp : Hp} {up : Hf} {d : Nat} {ty : TypeId} {pos : String} {aft : Array Edge} {gd : Option (Nat × Bool)} {p : PV} {g : FuncId} {args : List Operand} {ps : List PV} {ats : Array TypeId} {ms : Nat} {b b' : Blk} {bs : List (Nm × Blk)}
  (hsp : z36 P g ps (((0, ms), b) :: bs) [((0, ms), b')] p) (hev : St.evs ⟨n, tm, hp, up⟩ args = some ps) (hb : Ab.look hp ms = some b) (hbs : BkE ⟨n, tm, hp, up⟩ bs) (hd : d < n)
  (h : Ops P f R all l k ⟨n, (d, p) :: tm, (ms, b') :: hp, up⟩) : Op1 P f R all ⟨some d, .call ⟨.value (.func g), args.toArray, ats⟩, ty, pos, aft, gd⟩ l k ⟨n, tm, hp, up⟩ :=
 zgd hsp hev (z0s (m := (0, ms)) hb hbs) hd rfl h
def zem (u : Un) : Bool := decide (u.1 = 65533) && decide (u.2.2 = 1)
def z7y (s : ByteArray) : Rx × Int × Int :=
 if 200 < s.size then (zc8, 0, 2) else match (unF 0 (rst s 0)).find? zem with
  | some u => (zc8, u.2.1, 7)
  | none => z7g s.size (rst s 0)
theorem zkb : ∀ (l : List U) (i : Nat), (unF i l).length = l.length
 | [], i => rfl
 | u :: l, i => by rw [unF, List.length_cons, List.length_cons, zkb l]
theorem zen (τ : Tab) (s : ByteArray) (hs : s.size ≤ 1000000) : z36 Tryz.prog 6 [S s] (zd9 τ 0) [] (.tup [.d (eX (z7y s).1), I .i64 (z7y s).2.1, I .i64 (z7y s).2.2]) := by
 refine z42 fun H hH => ?_
 have hT : HT τ 0 H := HT.of (bs := []) hH
 refine z16 Tryz.func6 (by kernel_rfl) rfl (by simp) ?_
 dsimp only [Tryz.f6]
 by_cases h200 : 200 < s.size
 · rw [z7y, if_pos h200, z4w]
   repeat' (first | (apply z0e; (first | refine z13 rfl (by decide) ?_ | (apply z1k; (refine z00 (z48 rfl) rfl rfl (by decide) ?_)) | (apply z0i; (refine z0b rfl rfl rfl rfl rfl rfl ?_)) | (apply z0q; (refine z0j (z0p rfl rfl (by decide)) ?_)) | (apply z1i; (refine z1j rfl rfl rfl rfl rfl rfl rfl (by decide) ?_)))) | (apply z0f; (first | refine z0z ?_ | apply z0c)) | (apply z0d; (first | apply z0h | apply z01 | apply z06 | apply z02 | refine z1o rfl (fun _ => ?_) (fun _ => ?_))))
   all_goals try (exfalso; omega)
   all_goals exact z07 Tryz.func6 _ (z4o rfl rfl rfl rfl rfl rfl rfl rfl) ⟨rfl, rfl⟩
 rw [z7y, if_neg h200]
 repeat' (first | (apply z0e; (first | refine z13 rfl (by decide) ?_ | (apply z1k; (refine z00 (z48 rfl) rfl rfl (by decide) ?_)) | (apply z0i; (refine z0b rfl rfl rfl rfl rfl rfl ?_)) | (apply z0q; (refine z0j (z0p rfl rfl (by decide)) ?_)) | (apply z1i; (refine z1j rfl rfl rfl rfl rfl rfl rfl (by decide) ?_)))) | (apply z0f; (first | refine z0z ?_ | apply z0c)) | (apply z0d; (first | apply z0h | apply z01 | apply z06 | apply z02 | refine z1o rfl (fun _ => ?_) (fun _ => ?_))))
 all_goals try (exfalso; omega)
 obtain ⟨L, hL⟩ : ∃ L, unF 0 (rst s 0) = L := ⟨_, rfl⟩
 have hLl : L.length ≤ s.size := by rw [← hL, zkb]; have := z9j s _ 0 (Nat.le_refl _); omega
 rw [hL]
 refine z2b ?_
 refine z0y (z3e (fun q : Nat => ⟨66, [(0, S s), (2, .ptr (0, 2) 0), (5, I .i64 (q : Nat))], [(2, .box (z6l [Value.int .i64 0, Value.int .i64 0, Value.int .i64 0, z57, z57]))], H⟩)
  (fun q => q ≤ L.length ∧ (L.drop q).find? zem = L.find? zem) (fun q => L.length - q) ?_ 0 ⟨Nat.zero_le _, rfl⟩) rfl rfl
 intro q ⟨i1, i2⟩ ih
 have hat := zwa s hs q (by omega)
 rw [atR, hL] at hat
 by_cases hlt : q < L.length
 · obtain ⟨u, hu⟩ : ∃ u, L[q]? = some u := ⟨_, List.getElem?_eq_getElem hlt⟩
   rw [hu] at hat
   simp only at hat
   rw [drop_cons hu, List.find?_cons] at i2
   cases hb : zem u with
   | true =>
    rw [hb] at i2
    simp only at i2
    rw [← i2]
    simp only [zem, Bool.and_eq_true, decide_eq_true_eq] at hb
    obtain ⟨hb1, hb2⟩ := hb
    simp only
    rw [z4w]
    repeat' (first | (apply z0e; (first | refine z13 rfl (by decide) ?_ | (apply z19; (refine z00 (z1e (z1s (by omega) (by omega))) rfl rfl (by decide) ?_)) | (apply z0l; (refine z1z hat rfl (by decide) ?_)) | (apply z0i; (refine z0b rfl rfl rfl rfl rfl rfl ?_)) | (apply z1i; (refine z1j rfl rfl rfl rfl rfl rfl rfl (by decide) ?_)))) | (apply z0f; (first | refine z0z ?_ | apply z0c | refine z2e rfl rfl (by decide) ?_ | refine z0u rfl rfl (fun _ => ?_) (fun _ => ?_))) | (apply z0d; (first | apply z0h | apply z01 | refine z0g rfl ?_ | apply z06 | apply z02 | apply z04 | refine z1o rfl (fun _ => ?_) (fun _ => ?_))))
    all_goals try (exfalso; omega)
    all_goals exact z07 Tryz.func6 _ (z4o rfl rfl rfl rfl rfl rfl rfl rfl) ⟨rfl, rfl⟩
   | false =>
    rw [hb] at i2
    simp only at i2
    have hnb : ¬ (u.1 = 65533 ∧ u.2.2 = 1) := fun h => by
     simp only [zem, h.1, h.2] at hb; simp at hb
    repeat' (first | (apply z0e; (first | refine z13 rfl (by decide) ?_ | (apply z19; (refine z00 (z1e (z1s (by omega) (by omega))) rfl rfl (by decide) ?_)) | (apply z0l; (refine z1z hat rfl (by decide) ?_)) | (apply z0i; (refine z0b rfl rfl rfl rfl rfl rfl ?_)) | (apply z1i; (refine z1j rfl rfl rfl rfl rfl rfl rfl (by decide) ?_)))) | (apply z0f; (first | refine z0z ?_ | apply z0c | refine z2e rfl rfl (by decide) ?_ | refine z0u rfl rfl (fun _ => ?_) (fun _ => ?_))) | (apply z0d; (first | apply z0h | apply z01 | refine z0g rfl ?_ | apply z06 | apply z02 | apply z04 | refine z1o rfl (fun _ => ?_) (fun _ => ?_))))
    all_goals try (exfalso; omega)
    all_goals exact z0y (ih (q + 1) ⟨by omega, i2⟩ (by omega)) rfl rfl
 · obtain rfl : q = L.length := by omega
   rw [List.getElem?_eq_none (Nat.le_refl _)] at hat
   simp only at hat
   rw [List.drop_length, List.find?_nil] at i2
   rw [← i2]
   simp only
   clear ih
   have hil := z9j s _ 0 (Nat.le_refl _)
   obtain ⟨N, hN⟩ : ∃ N, 4 * (rst s 0).length + 4 = N := ⟨_, rfl⟩
   have hne := (zw8 N).1 [] (rst s 0) (by omega)
   have hu := zr1 (X := 10) (by decide) (by decide) τ s hs N 0 (Nat.zero_le _) 0 hne
   have hsf := (zdi N).1 [] (rst s 0)
   have hsz := (zun N).1 [] (rst s 0)
   have hrs := (zw1 1000001 N).1 [] (rst s 0)
   rcases hp : pU N [] (rst s 0) with ⟨e, r⟩ | ⟨a, b⟩ | _
   · rw [hp] at hu hsf hsz hrs
     obtain ⟨j, hj1, hj, rfl⟩ := z5p s _ 0 r (Nat.le_refl _) (Nat.zero_le _) hsf
     have hsz := hsz e _ rfl
     have hrs := hrs e _ (by omega) (by rw [zd6]; trivial) rfl
     simp only [szL] at hsz
     have hfit : fit e := (zt4 3000000 (by decide)).1 e (by omega) (zsr (C := 1000001) (D := 3000000) (by decide) hrs)
     have hv := z6f e hfit
     rw [z4k hj] at hu
     obtain ⟨op, mn, mx, rs, ks⟩ := e
     rw [z8m, z65] at hu
     rw [show Drx (.mk op mn mx rs ks) = .agg (rx5 op mn mx rs ks) from z65 op mn mx rs ks] at hv
     by_cases hjl : j < s.size
     · have hq : z7g s.size (rst s 0) = (zc8, (j : Int), 3) := by
        have hsj := zat hj
        rw [z7g, hN, hp, z4m hjl]
        simp only
        rw [← z4m hjl, hsj]
        simp; omega
       have hf := z5v (X := 10) s (I .i64 (j : Nat)) (j : Nat) 3 0 (by decide)
       rw [hq, z4w]
       repeat' (first | (apply z0e; (first | refine z13 rfl (by decide) ?_ | (apply z09; (first | refine z00 (z0k rfl rfl rfl rfl) rfl rfl (by decide) ?_ | refine z00 (z1a rfl rfl rfl rfl) rfl rfl (by decide) ?_)) | (apply z08; (refine z00 (z03 rfl rfl) rfl rfl (by decide) ?_)) | (apply z1k; (refine z00 (z48 rfl) rfl rfl (by decide) ?_)) | (apply z0l; (first | refine zed hu rfl rfl (bkT hT) (by decide) ?_ | refine z1z hat rfl (by decide) ?_ | refine z6w hf rfl rfl (by decide) ?_)) | (apply z0i; (refine z0b rfl rfl rfl rfl rfl rfl ?_)) | (apply z0q; (refine z0j (z0p rfl rfl (by decide)) ?_)) | (apply z1i; (refine z1j rfl rfl rfl rfl rfl rfl rfl (by decide) ?_)))) | (apply z0f; (first | refine z0z ?_ | apply z0c)) | (apply z0d; (first | apply z0h | apply z01 | refine z0o rfl ?_ | refine z0g rfl ?_ | apply z06 | apply z02 | apply z3w | refine z1o rfl (fun _ => ?_) (fun _ => ?_) | refine z0r rfl ?_)) | (apply z3x; (first | (apply z1v; refine z2o mix (by kernel_rfl) ?_) | refine z47 rfl (by first | exact rfl | exact ⟨_, rfl, rfl, rfl⟩) (by decide) ?_ | (apply z1g; (refine z0n (z0k rfl rfl rfl rfl) (by first | exact rfl | exact ⟨_, rfl, rfl, rfl⟩) rfl rfl (by decide) ?_)) | (apply z1b; (refine z0n (z03 rfl rfl) (by first | exact rfl | exact ⟨_, rfl, rfl, rfl⟩) rfl rfl (by decide) ?_)) | (apply z3v; (refine z5h (by first | exact rfl | exact ⟨_, rfl, rfl, rfl⟩) rfl rfl rfl rfl rfl rfl ?_)) | (apply zi8; (refine zld (by first | exact rfl | exact ⟨_, rfl, rfl, rfl⟩) rfl rfl rfl rfl rfl rfl rfl (by decide) ?_)))))
       all_goals try (exfalso; omega)
       all_goals exact z07 Tryz.func6 _ (z4o rfl rfl rfl rfl rfl rfl rfl rfl) ⟨rfl, rfl⟩
     · have hq : z7g s.size (rst s 0) = if val (.mk op mn mx rs ks) ≠ 0 then (zc8, 0, 2) else (.mk op mn mx rs ks, 0, 0) := by
        rw [z7g, hN, hp, z3m (by omega)]
       rw [hq]
       by_cases hv0 : val (.mk op mn mx rs ks) ≠ 0
       · rw [if_pos hv0, z4w]
         repeat' (first | (apply z0e; (first | refine z13 rfl (by decide) ?_ | (apply z09; (first | refine z00 (z0k rfl rfl rfl rfl) rfl rfl (by decide) ?_ | refine z00 (z1a rfl rfl rfl rfl) rfl rfl (by decide) ?_)) | (apply z08; (refine z00 (z03 rfl rfl) rfl rfl (by decide) ?_)) | (apply z1k; (refine z00 (z48 rfl) rfl rfl (by decide) ?_)) | (apply z0l; (first | refine zed hu rfl rfl (bkT hT) (by decide) ?_ | refine z1z hat rfl (by decide) ?_ | refine z1z hv rfl (by decide) ?_)) | (apply z0i; (refine z0b rfl rfl rfl rfl rfl rfl ?_)) | (apply z0q; (refine z0j (z0p rfl rfl (by decide)) ?_)) | (apply z1i; (refine z1j rfl rfl rfl rfl rfl rfl rfl (by decide) ?_)))) | (apply z0f; (first | refine z0z ?_ | apply z0c)) | (apply z0d; (first | apply z0h | apply z01 | refine z0o rfl ?_ | refine z0g rfl ?_ | apply z06 | apply z02 | refine z1o rfl (fun _ => ?_) (fun _ => ?_) | refine z2w rfl (fun _ => ?_) (fun _ => ?_) | refine z0r rfl ?_)))
         all_goals try (exfalso; omega)
         all_goals exact z07 Tryz.func6 _ (z4o rfl rfl rfl rfl rfl rfl rfl rfl) ⟨rfl, rfl⟩
       · rw [if_neg hv0, z65]
         have hv1 : val (.mk op mn mx rs ks) = 0 := Classical.not_not.1 hv0
         rw [hv1] at hv
         repeat' (first | (apply z0e; (first | refine z13 rfl (by decide) ?_ | (apply z09; (first | refine z00 (z0k rfl rfl rfl rfl) rfl rfl (by decide) ?_ | refine z00 (z1a rfl rfl rfl rfl) rfl rfl (by decide) ?_)) | (apply z08; (refine z00 (z03 rfl rfl) rfl rfl (by decide) ?_)) | (apply z1k; (refine z00 (z48 rfl) rfl rfl (by decide) ?_)) | (apply z0l; (first | refine zed hu rfl rfl (bkT hT) (by decide) ?_ | refine z1z hat rfl (by decide) ?_ | refine z1z hv rfl (by decide) ?_)) | (apply z0i; (refine z0b rfl rfl rfl rfl rfl rfl ?_)) | (apply z0q; (refine z0j (z0p rfl rfl (by decide)) ?_)) | (apply z1i; (refine z1j rfl rfl rfl rfl rfl rfl rfl (by decide) ?_)))) | (apply z0f; (first | refine z0z ?_ | apply z0c)) | (apply z0d; (first | apply z0h | apply z01 | refine z0o rfl ?_ | refine z0g rfl ?_ | apply z06 | apply z02 | refine z1o rfl (fun _ => ?_) (fun _ => ?_) | refine z0r rfl ?_)))
         all_goals try (exfalso; omega)
         all_goals exact z07 Tryz.func6 _ (z4o rfl rfl rfl rfl rfl rfl rfl rfl) ⟨rfl, rfl⟩
   · rw [hp] at hu hsf
     have hq : z7g s.size (rst s 0) = (zc8, (s.size : Int) - bts a, b) := by rw [z7g, hN, hp]
     obtain ⟨j, hj1, hj, rfl⟩ := z5p s _ 0 a (Nat.le_refl _) (Nat.zero_le _) hsf
     have hsj := zat hj
     rw [z5o hj] at hu
     rw [hq, hsj, show (s.size : Int) - ((s.size - j : Nat) : Int) = (j : Nat) by omega, z4w]
     rw [z8m, z4w] at hu
     repeat' (first | (apply z0e; (first | refine z13 rfl (by decide) ?_ | (apply z0l; (first | refine zed hu rfl rfl (bkT hT) (by decide) ?_ | refine z1z hat rfl (by decide) ?_)) | (apply z0i; (refine z0b rfl rfl rfl rfl rfl rfl ?_)) | (apply z0q; (refine z0j (z0p rfl rfl (by decide)) ?_)) | (apply z1i; (refine z1j rfl rfl rfl rfl rfl rfl rfl (by decide) ?_)))) | (apply z0f; (first | refine z0z ?_ | apply z0c | refine z2e rfl rfl (by decide) ?_)) | (apply z0d; (first | apply z0h | apply z01 | refine z0o rfl ?_ | refine z0g rfl ?_ | apply z06 | apply z02 | apply z3w | refine z0r rfl ?_)) | (apply z3x; (first | (apply z1v; refine z2o mix (by kernel_rfl) ?_) | refine z47 rfl (by first | exact rfl | exact ⟨_, rfl, rfl, rfl⟩) (by decide) ?_ | (apply z1g; (refine z0n (z0k rfl rfl rfl rfl) (by first | exact rfl | exact ⟨_, rfl, rfl, rfl⟩) rfl rfl (by decide) ?_)) | (apply z1b; (refine z0n (z03 rfl rfl) (by first | exact rfl | exact ⟨_, rfl, rfl, rfl⟩) rfl rfl (by decide) ?_)) | (apply z3v; (refine z5h (by first | exact rfl | exact ⟨_, rfl, rfl, rfl⟩) rfl rfl rfl rfl rfl rfl ?_)) | (apply zi8; (refine zld (by first | exact rfl | exact ⟨_, rfl, rfl, rfl⟩) rfl rfl rfl rfl rfl rfl rfl (by decide) ?_)))))
     all_goals try (exfalso; omega)
     all_goals exact z07 Tryz.func6 _ (z4o rfl rfl rfl rfl rfl rfl rfl rfl) ⟨rfl, rfl⟩
   · exact absurd hp hne
end Go.Proofs.YtjmbjgecfpggdaaGreatDoor
