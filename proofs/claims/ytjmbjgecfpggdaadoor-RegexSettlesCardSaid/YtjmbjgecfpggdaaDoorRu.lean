/- A part of the proof: Shs, G10, G11, G12, G13, G14, G15, G18. -/
import Derived.Shelf.SlSortCmp.NoneTotal
import Derived.Test.YtjmbjgecfpggdaaDoorProg
import Derived.Test.YtjmbjgecfpggdaaDoorRs
import Derived.Test.YtjmbjgecfpggdaaDoorRc
import Derived.Test.YtjmbjgecfpggdaaDoorRx
import Derived.Test.YtjmbjgecfpggdaaDoorRr
set_option linter.all false
set_option linter.unusedVariables false
set_option linter.unusedSimpArgs false
namespace Go.Proofs.YtjmbjgecfpggdaaDoor
open Go.Proofs
open Go.Shelf
def lays6R_ren : Go.Shelf.Ren := ⟨fun | 6 => 93 | 15 => 98 | 14 => 97 | 28 => 109 | 29 => 110 | 20 => 101 | 21 => 102 | 22 => 103 | 23 => 104 | 24 => 105 | 25 => 106 | 26 => 107 | 27 => 108 | 46 => 111 | 47 => 112 | 48 => 113 | 49 => 114 | 50 => 115 | 57 => 116 | n => n, fun | 22 => 22 | 24 => 71 | 25 => 134 | 3 => 3 | 39 => 117 | 0 => 0 | 53 => 145 | 55 => 77 | 4 => 4 | 46 => 139 | 45 => 138 | 50 => 114 | 5 => 5 | 9 => 9 | 66 => 147 | 70 => 45 | 76 => 152 | 77 => 153 | n => n, fun | n => n⟩
theorem lays6R : Go.Proofs.SlLaysF0.n6 Tryd.prog lays6R_ren := {
  mixed := by kernel_rfl
  f6 := ⟨Tryd.f93.name, by decide, Tryd.func93.trans (congrArg some (by kernel_rfl))⟩
  f14 := ⟨Tryd.f97.name, by decide, Tryd.func97.trans (congrArg some (by kernel_rfl))⟩
  f15 := Tryd.func98.trans (congrArg some (by kernel_rfl))
  f20 := ⟨Tryd.f101.name, by decide, Tryd.func101.trans (congrArg some (by kernel_rfl))⟩
  f21 := ⟨Tryd.f102.name, by decide, Tryd.func102.trans (congrArg some (by kernel_rfl))⟩
  f22 := ⟨Tryd.f103.name, by decide, Tryd.func103.trans (congrArg some (by kernel_rfl))⟩
  f23 := ⟨Tryd.f104.name, by decide, Tryd.func104.trans (congrArg some (by kernel_rfl))⟩
  f24 := ⟨Tryd.f105.name, by decide, Tryd.func105.trans (congrArg some (by kernel_rfl))⟩
  f25 := ⟨Tryd.f106.name, by decide, Tryd.func106.trans (congrArg some (by kernel_rfl))⟩
  f26 := ⟨Tryd.f107.name, by decide, Tryd.func107.trans (congrArg some (by kernel_rfl))⟩
  f27 := ⟨Tryd.f108.name, by decide, Tryd.func108.trans (congrArg some (by kernel_rfl))⟩
  f28 := Tryd.func109.trans (congrArg some (by kernel_rfl))
  f29 := Tryd.func110.trans (congrArg some (by kernel_rfl))
  f46 := ⟨Tryd.f111.name, by decide, Tryd.func111.trans (congrArg some (by kernel_rfl))⟩
  f47 := Tryd.func112.trans (congrArg some (by kernel_rfl))
  f48 := Tryd.func113.trans (congrArg some (by kernel_rfl))
  f49 := ⟨Tryd.f114.name, by decide, Tryd.func114.trans (congrArg some (by kernel_rfl))⟩
  f50 := ⟨Tryd.f115.name, by decide, Tryd.func115.trans (congrArg some (by kernel_rfl))⟩
  f57 := ⟨Tryd.f116.name, by decide, Tryd.func116.trans (congrArg some (by kernel_rfl))⟩
  t0 := Tryd.underlying0
  a0 := Tryd.isAgg0
  z0 := Tryd.sizeOf0
  v0 := Tryd.zeroValue0
  t3 := Tryd.underlying3
  a3 := Tryd.isAgg3
  z3 := Tryd.sizeOf3
  v3 := Tryd.zeroValue3
  t4 := Tryd.underlying4
  a4 := Tryd.isAgg4
  z4 := Tryd.sizeOf4
  v4 := Tryd.zeroValue4
  t5 := Tryd.underlying5
  a5 := Tryd.isAgg5
  z5 := Tryd.sizeOf5
  v5 := Tryd.zeroValue5
  t9 := Tryd.underlying9
  a9 := Tryd.isAgg9
  z9 := Tryd.sizeOf9
  v9 := Tryd.zeroValue9
  t22 := Tryd.underlying22
  a22 := Tryd.isAgg22
  z22 := Tryd.sizeOf22
  v22 := Tryd.zeroValue22
  t25 := Tryd.underlying134
  a25 := Tryd.isAgg134
  z25 := Tryd.sizeOf134
  v25 := Tryd.zeroValue134
  t39 := Tryd.underlying117
  a39 := Tryd.isAgg117
  z39 := Tryd.sizeOf117
  v39 := Tryd.zeroValue117
  t45 := Tryd.underlying138
  a45 := Tryd.isAgg138
  z45 := Tryd.sizeOf138
  v45 := Tryd.zeroValue138
  t46 := Tryd.underlying139
  a46 := Tryd.isAgg139
  z46 := Tryd.sizeOf139
  v46 := Tryd.zeroValue139
  t50 := Tryd.underlying114
  a50 := Tryd.isAgg114
  z50 := Tryd.sizeOf114
  v50 := Tryd.zeroValue114
  t53 := Tryd.underlying145
  a53 := Tryd.isAgg145
  z53 := Tryd.sizeOf145
  v53 := Tryd.zeroValue145
  t55 := Tryd.underlying77
  a55 := Tryd.isAgg77
  z55 := Tryd.sizeOf77
  v55 := Tryd.zeroValue77
  t66 := Tryd.underlying147
  a66 := Tryd.isAgg147
  z66 := Tryd.sizeOf147
  v66 := Tryd.zeroValue147
  t70 := Tryd.underlying45
  a70 := Tryd.isAgg45
  z70 := Tryd.sizeOf45
  v70 := Tryd.zeroValue45
  t76 := Tryd.underlying152
  a76 := Tryd.isAgg152
  z76 := Tryd.sizeOf152
  v76 := Tryd.zeroValue152
  t77 := Tryd.underlying153
  a77 := Tryd.isAgg153
  z77 := Tryd.sizeOf153
  v77 := Tryd.zeroValue153 }
open Go.RowKit Go.Lib Go.Sort
theorem isNaN_k (x : Int) (w : World) : Calls Tryd.prog 99 #[.int .i32 x] w fun e w' => e = .returned (.bool false) ∧ w' = w := by
  go_enter Tryd.func99, Tryd.ntmps99
  go_wp2
  go_ret
  exact ⟨by simp, rfl⟩
theorem cmp_k (x y : Int) (w : World) : Calls Tryd.prog 95 #[.int .i32 x, .int .i32 y] w fun e w' => e = .returned (.int .i64 (Lib.compareInt x y)) ∧ w' = w := by
  go_enter Tryd.func95, Tryd.ntmps95
  go_wp2_with (go_at_call 99; refine (isNaN_k _ _).mono ?_; rintro e w' ⟨rfl, hw⟩; rw [hw])
  all_goals (go_ret; refine ⟨?_, rfl⟩; unfold Lib.compareInt; (repeat' split) <;> first | rfl | (exfalso; omega))
def encR (x : Int × Int) : List Value := [.int .i32 x.1, .int .i32 x.2]
theorem closure_k (x y : Int × Int) (W : World) : Calls Tryd.prog 94 #[.agg #[.int .i32 x.1, .int .i32 x.2], .agg #[.int .i32 y.1, .int .i32 y.2]] W fun e w' => e = .returned (.int .i64 (Lib.compareInt x.1 y.1)) ∧ ∃ q os', w' = grow (W.drewN q) os' := by
  have hcon := fun W' => cmp_k x.1 y.1 W'
  generalize Lib.compareInt x.1 y.1 = r at hcon ⊢
  go_enter Tryd.func94, Tryd.ntmps94
  go_wp2_with (go_at_call 95; refine (hcon _).mono ?_; rintro e w' ⟨rfl, rfl⟩)
  go_ret
  exact ⟨rfl, 0, _, by rw [alloc_eq_grow, alloc_eq_grow, grow_grow]; rfl⟩
abbrev cfR (x y : Int × Int) : Int := Lib.compareInt x.1 y.1
theorem ltR (x y : Int × Int) : ltOf cfR x y = decide (x.1 < y.1) := by
  unfold ltOf cfR Lib.compareInt
  by_cases h1 : x.1 < y.1
  · simp [h1]
  · by_cases h2 : y.1 < x.1 <;> simp [h1, h2]
theorem swoR : SWO (ltOf cfR) where
  irrefl x := by rw [ltR]; simp
  trans x y z h1 h2 := by rw [ltR] at *; simp at *; omega
  ntrans x y z h1 h2 := by rw [ltR] at *; simp at *; omega
theorem sortR_k (blk off cap : Nat) (zs : List (Int × Int)) (w : World) (hH : HoldsK encR 2 w blk off zs.toArray) (hblk : blk < w.heap.size) (hsz : zs.length < 4611686018427387904) :
    Calls Tryd.prog 93 #[.slice (some ⟨blk, off, none⟩) zs.length cap, .func (.func 94) #[] #[]] w fun e w' =>
      e = .returned (.tuple #[]) ∧ ∃ n os, w' = grow (putRowK encR 2 (Sort.ahead w n) blk off (pdq (ltOf cfR) zs.toArray 0 zs.toArray.size (Lib.bitLen zs.toArray.size) true true)) os := by
  have eg : ∀ args w, (callFunc 94 args).run Tryd.prog w = .ok (.enter 94 args) w := enters_of Tryd.func94 (by kernel_rfl) rfl
  exact AnyQ.slices_SortFunc_eq lays6R 2 Tryd.isAgg71 Tryd.sizeOf71 encR (fun _ => rfl) (fun x v hv => by simp [encR] at hv; rcases hv with rfl | rfl <;> rfl) cfR swoR 94 #[] blk off cap zs.toArray w eg (fun _ _ _ _ x y => closure_k x y _) hH hblk (by simpa using hsz)
theorem sortR_none (p : Option Addr) (cap : Nat) (fv : Value) (w : World) :
    Calls Tryd.prog 93 #[.slice p 0 cap, fv] w fun e w' => e = .returned (.tuple #[]) ∧ w' = w := AnyF.slices_SortFunc_none lays6R p cap fv w
end Go.Proofs.YtjmbjgecfpggdaaDoor
namespace Go.Proofs.YtjmbjgecfpggdaaDoor
open Go.Ab Go.Rx
set_option maxHeartbeats 20000000
set_option maxRecDepth 100000
set_option linter.unusedVariables false
set_option linter.unusedSimpArgs false
attribute [local irreducible] Run Ops Op1 Does Val Tr PureF Eff1 NF Rel EffV EffM
theorem others_s (l : List Rg) (hl : l.length ≤ 1000000) (hb : ∀ r ∈ l, 0 ≤ r.1 ∧ r.1 ≤ 1114111 ∧ 0 ≤ r.2 ∧ r.2 ≤ 1114111) : PureF Tryd.prog 86 [.d (rgs l)] (.d (rgs (negF 0 l))) := by
  refine pure_of fun H => ?_
  refine spec_of Tryd.func86 (by kernel_rfl) rfl (by simp) ?_
  dsimp only [Tryd.f86]
  repeat' (first | (refine k_op1 ?_; (first | refine o_sv rfl (by decide) ?_ | (refine k_blt ?_; (refine o_val (v_lenm rfl) rfl rfl (by decide) ?_)))) | (refine k_ops ?_; (first | refine o_go (by first | exact .inl rfl | exact .inr ⟨_, _, _, rfl, rfl, rfl⟩) ?_ | refine o_nil ?_)) | (refine k_run ?_; (first | refine r_seq ?_ | refine r_region ?_ | refine r_block ?_)))
  all_goals try (exfalso; omega)
  refine r_slot_row 3 1000 71 2 rfl rfl rfl ?_
  refine r_loop ?_
  refine r_less (r_inv (fun q : Nat × Int × List Rg => ⟨37, [(7, .d (rgs l)), (8, I .i64 l.length), (9, I .i64 (q.1 : Nat)), (4, I .i32 q.2.1), (3, .ref (0, 1000))], [(1000, .row 71 2 (q.2.2.map rgc))], H⟩)
    (fun q => q.1 ≤ l.length ∧ 0 ≤ q.2.1 ∧ q.2.1 ≤ 1114112 ∧ q.2.2.length ≤ q.1 ∧ q.2.2 ++ negF q.2.1 (l.drop q.1) = negF 0 l) (fun q => l.length - q.1) ?_ (0, 0, []) ⟨Nat.zero_le _, by simp, by simp, by simp, by simp⟩) rfl rfl
  rintro ⟨i, a, out⟩ ⟨i1, i2, i3, i4, i5⟩ ih
  simp only at i1 i2 i3 i4 i5 ih ⊢
  by_cases hlt : i < l.length
  · obtain ⟨r, hr⟩ : ∃ r, l[i]? = some r := ⟨_, List.getElem?_eq_getElem hlt⟩
    obtain ⟨b1, b2, b3, b4⟩ := hb r (List.mem_of_getElem? hr)
    rw [drop_cons hr, negF] at i5
    by_cases hc : a < r.1
    · rw [if_pos hc] at i5
      repeat' (first | (refine k_op1 ?_; (first | refine o_sv rfl (by decide) ?_ | (refine k_load ?_; (first | refine o_val (v_load rfl rfl rfl rfl) rfl rfl (by decide) ?_ | refine o_val (v_loadea rfl rfl) rfl rfl (by decide) ?_)) | (refine k_field ?_; (refine o_val (v_field rfl rfl) rfl rfl (by decide) ?_)) | (refine k_index ?_; (refine o_val (v_index (ys := l.map rgc) rfl (by omega) (idx hr) rfl) rfl rfl (by decide) ?_)) | (refine k_bin ?_; (first | refine o_val (v_sub (wi32 (by omega) (by omega))) rfl rfl (by decide) ?_ | refine o_val (v_add (wi32 (by omega) (by omega))) rfl rfl (by decide) ?_ | refine o_val (v_add (wi64 (by omega) (by omega))) rfl rfl (by decide) ?_)) | (refine k_blt ?_; (refine o_app1 (g := rgc) rfl rfl (a, r.1 - 1) rfl rfl rfl rfl rfl rfl rfl (by decide) (by omega) ?_)) | (refine k_store ?_; (refine o_store0 rfl rfl rfl rfl rfl rfl ?_)) | (refine k_alloc ?_; (refine o_does (d_alloc rfl rfl (by decide)) ?_)) | (refine k_build ?_; (refine o_build rfl rfl rfl rfl rfl rfl rfl (by decide) ?_)) | (refine k_lit ?_; (refine o_lit rfl rfl rfl rfl rfl rfl rfl rfl (by decide) ?_)))) | (refine k_ops ?_; (first | refine o_go (by first | exact .inl rfl | exact .inr ⟨_, _, _, rfl, rfl, rfl⟩) ?_ | refine o_nil ?_)) | (refine k_run ?_; (first | refine r_seq ?_ | refine r_region ?_ | refine r_skip ?_ | refine r_block ?_ | refine r_inBlock ?_ | refine r_if rfl (fun _ => ?_) (fun _ => ?_) | refine r_exit rfl ?_)))
      all_goals try (exfalso; omega)
      refine r_ren 24 1000 rfl rfl ?_
      exact r_less (ih (i + 1, r.2 + 1, out ++ [(a, r.1 - 1)]) ⟨by simp only; omega, by simp only; omega, by simp only; omega, by simp; omega, by simpa using i5⟩ (by simp only; omega)) rfl rfl
    · rw [if_neg hc] at i5
      repeat' (first | (refine k_op1 ?_; (first | refine o_sv rfl (by decide) ?_ | (refine k_load ?_; (first | refine o_val (v_load rfl rfl rfl rfl) rfl rfl (by decide) ?_ | refine o_val (v_loadea rfl rfl) rfl rfl (by decide) ?_)) | (refine k_field ?_; (refine o_val (v_field rfl rfl) rfl rfl (by decide) ?_)) | (refine k_index ?_; (refine o_val (v_index (ys := l.map rgc) rfl (by omega) (idx hr) rfl) rfl rfl (by decide) ?_)) | (refine k_bin ?_; (first | refine o_val (v_add (wi32 (by omega) (by omega))) rfl rfl (by decide) ?_ | refine o_val (v_add (wi64 (by omega) (by omega))) rfl rfl (by decide) ?_)) | (refine k_store ?_; (refine o_store0 rfl rfl rfl rfl rfl rfl ?_)) | (refine k_alloc ?_; (refine o_does (d_alloc rfl rfl (by decide)) ?_)) | (refine k_build ?_; (refine o_build rfl rfl rfl rfl rfl rfl rfl (by decide) ?_)) | (refine k_lit ?_; (refine o_lit rfl rfl rfl rfl rfl rfl rfl rfl (by decide) ?_)))) | (refine k_ops ?_; (first | refine o_go (by first | exact .inl rfl | exact .inr ⟨_, _, _, rfl, rfl, rfl⟩) ?_ | refine o_nil ?_)) | (refine k_run ?_; (first | refine r_seq ?_ | refine r_region ?_ | refine r_skip ?_ | refine r_block ?_ | refine r_inBlock ?_ | refine r_if rfl (fun _ => ?_) (fun _ => ?_) | refine r_exit rfl ?_)))
      all_goals try (exfalso; omega)
      exact r_less (ih (i + 1, r.2 + 1, out) ⟨by simp only; omega, by simp only; omega, by simp only; omega, by simp; omega, by simpa using i5⟩ (by simp only; omega)) rfl rfl
  · obtain rfl : i = l.length := by omega
    rw [List.drop_length, negF] at i5
    by_cases hc : a ≤ 1114111
    · rw [if_pos hc] at i5
      rw [← i5]
      repeat' (first | (refine k_op1 ?_; (first | refine o_sv rfl (by decide) ?_ | (refine k_blt ?_; (refine o_app1 (g := rgc) rfl rfl (a, 1114111) rfl rfl rfl rfl rfl rfl rfl (by decide) (by omega) ?_)) | (refine k_build ?_; (refine o_build rfl rfl rfl rfl rfl rfl rfl (by decide) ?_)) | (refine k_lit ?_; (refine o_lit rfl rfl rfl rfl rfl rfl rfl rfl (by decide) ?_)))) | (refine k_ops ?_; (first | refine o_go (by first | exact .inl rfl | exact .inr ⟨_, _, _, rfl, rfl, rfl⟩) ?_ | refine o_nil ?_)) | (refine k_run ?_; (first | refine r_seq ?_ | refine r_region ?_ | refine r_skip ?_ | refine r_block ?_ | refine r_if rfl (fun _ => ?_) (fun _ => ?_) | refine r_exit rfl ?_)))
      all_goals try (exfalso; omega)
      refine r_freeze 35 rfl ?_
      exact r_ret Tryd.func86 _ (res_one rfl rfl) ⟨rfl, rfl⟩
    · rw [if_neg hc, List.append_nil] at i5
      rw [← i5]
      repeat' (first | (refine k_op1 ?_; (first | refine o_sv rfl (by decide) ?_ | (refine k_build ?_; (refine o_build rfl rfl rfl rfl rfl rfl rfl (by decide) ?_)) | (refine k_lit ?_; (refine o_lit rfl rfl rfl rfl rfl rfl rfl rfl (by decide) ?_)))) | (refine k_ops ?_; (first | refine o_go (by first | exact .inl rfl | exact .inr ⟨_, _, _, rfl, rfl, rfl⟩) ?_ | refine o_nil ?_)) | (refine k_run ?_; (first | refine r_seq ?_ | refine r_region ?_ | refine r_skip ?_ | refine r_block ?_ | refine r_if rfl (fun _ => ?_) (fun _ => ?_) | refine r_exit rfl ?_)))
      all_goals try (exfalso; omega)
      refine r_freeze 1000 rfl ?_
      exact r_ret Tryd.func86 _ (res_one rfl rfl) ⟨rfl, rfl⟩
open Go.Sort Go.RowKit in
def srt (q : List Rg) : List Rg := (pdq (ltOf cfR) q.toArray 0 q.toArray.size (Lib.bitLen q.toArray.size) true true).toList
open Go.Sort Go.RowKit in
theorem srt_perm (q : List Rg) : (srt q).Perm q := by
  have h := (pdq_sorts (ltOf cfR) swoR q.toArray 0 q.toArray.size (Lib.bitLen q.toArray.size) true true (Nat.zero_le _) (Nat.le_refl _) (Or.inl rfl)).1
  obtain ⟨h1, _, h3⟩ := h
  rw [srt]
  generalize pdq (ltOf cfR) q.toArray 0 q.toArray.size (Lib.bitLen q.toArray.size) true true = d at *
  rw [← h1] at h3
  have h4 : d.size = q.length := by simpa using h1
  simp only [Array.extract_size, List.extract_toArray] at h3
  simpa [h4] using h3
open Go.Sort Go.RowKit in
theorem srt_asc (q : List Rg) : (srt q).Pairwise fun x y => x.1 ≤ y.1 := by
  have hp := srt_perm q
  have h := (pdq_sorts (ltOf cfR) swoR q.toArray 0 q.toArray.size (Lib.bitLen q.toArray.size) true true (Nat.zero_le _) (Nat.le_refl _) (Or.inl rfl)).2
  rw [srt] at hp ⊢
  generalize pdq (ltOf cfR) q.toArray 0 q.toArray.size (Lib.bitLen q.toArray.size) true true = d at *
  have hl := hp.length_eq
  rw [List.pairwise_iff_getElem]
  intro i j hi hj hij
  have := h i j (Nat.zero_le _) hij (by simpa [← hl] using hj)
  rw [ltR] at this
  have hi' : i < d.size := by simpa using hi
  have hj' : j < d.size := by simpa using hj
  rw [getElem!_pos d _ hj', getElem!_pos d _ hi'] at this
  simpa using this
theorem asc_of : ∀ (l : List Rg) (a : Int), (∀ r ∈ l, a ≤ r.1 ∧ r.1 ≤ r.2) → (l.Pairwise fun x y => x.1 ≤ y.1) → ascF a l
  | [], _, _, _ => trivial
  | r :: l, a, h, hp => by
    rw [List.pairwise_cons] at hp
    exact ⟨(h r (by simp)).1, (h r (by simp)).2, asc_of l r.1 (fun x hx => ⟨hp.1 x hx, (h x (by simp [hx])).2⟩) hp.2⟩
theorem srt_norm {q : List Rg} (h : ∀ r ∈ q, 0 ≤ r.1 ∧ r.1 ≤ r.2) : normS (srt q) = norm q :=
  norm_any h (asc_of _ 0 (fun r hr => h r ((srt_perm q).mem_iff.1 hr)) (srt_asc q)) fun x => (srt_perm q).mem_iff
theorem sort_e (q : List Rg) (hq : q.length < 4611686018427387904) (d x : Nat) : Eff1 Tryd.prog 93 [.ref (d, x), .fn (.func 94) [] []] [((d, x), .row 71 2 (q.map rgc))] [((d, x), .row 71 2 ((srt q).map rgc))] (.tup []) := by
  have hl : (srt q).length = q.length := (srt_perm q).length_eq
  refine eff_sortK (α := Rg) (by decide) encR (fun _ => rfl) (fun x v hv => by simp [encR] at hv; rcases hv with rfl | rfl <;> rfl) ⟨_, Tryd.func93, by kernel_rfl, by kernel_rfl⟩ (fv := .func (.func 94) #[] #[]) (fun β w own v h => ?_) q (srt q) hl (fun blk off cap w h1 h2 => ?_) (fun p cap w => sortR_none p cap _ w) d x
  · cases h with
    | fn f first cap fv cv h1 h2 hd1 hd2 =>
      obtain rfl : fv = [] := by cases fv with | nil => rfl | cons a b => simp at h1
      obtain rfl : cv = [] := by cases cv with | nil => rfl | cons a b => simp at h2
      rfl
  · exact sortR_k blk off cap q w h1 h2 hq
theorem set_last {pre : List Rg} {p v : Rg} : (pre ++ [p]).set ((((pre ++ [p]).length : Nat) : Int) - 1).toNat v = pre ++ [v] := by
  rw [show ((((pre ++ [p]).length : Nat) : Int) - 1).toNat = pre.length by simp]
  simp
theorem get_last {pre : List Rg} {p : Rg} : (pre ++ [p])[((((pre ++ [p]).length : Nat) : Int) - 1).toNat]? = some p := by
  rw [show ((((pre ++ [p]).length : Nat) : Int) - 1).toNat = pre.length by simp]
  simp
theorem merged_s (q : List Rg) (hq : q.length ≤ 1000000) (hb : ∀ r ∈ q, 0 ≤ r.1 ∧ r.1 ≤ r.2 ∧ r.2 ≤ 1114111) : Eff1 Tryd.prog 85 [.ref (0, 1000)] [((0, 1000), .row 71 2 (q.map rgc))] [((0, 1000), .gone)] (.d (rgs (norm q))) := by
  refine eff_of fun H hH => ?_
  have hX : H 0 1000 = some (.row 71 2 (q.map rgc)) := hH ((0, 1000), .row 71 2 (q.map rgc)) (by simp)
  refine spec_of Tryd.func85 (by kernel_rfl) rfl (by simp) ?_
  dsimp only [Tryd.f85]
  rw [← srt_norm fun r hr => ⟨(hb r hr).1, (hb r hr).2.1⟩]
  have hst := sort_e q (by omega) 0 2000
  have hl : (srt q).length = q.length := (srt_perm q).length_eq
  have hbs : ∀ r ∈ srt q, 0 ≤ r.1 ∧ r.1 ≤ r.2 ∧ r.2 ≤ 1114111 := fun r hr => hb r ((srt_perm q).mem_iff.1 hr)
  generalize srt q = S at *
  refine r_taker 2000 0 1000 hX rfl rfl ?_
  repeat' (first | (refine k_op1 ?_; (first | refine o_sv rfl (by decide) ?_ | (refine k_blt ?_; (refine o_val (v_lenm rfl) rfl rfl (by decide) ?_)) | (refine k_call ?_; ((refine o_eff1 hst rfl rfl (by decide) ?_; refine o_freeze 2000 rfl ?_))))) | (refine k_ops ?_; (first | refine o_go (by first | exact .inl rfl | exact .inr ⟨_, _, _, rfl, rfl, rfl⟩) ?_ | refine o_nil ?_)) | (refine k_run ?_; (first | refine r_seq ?_ | refine r_region ?_ | refine r_block ?_)))
  all_goals try (exfalso; omega)
  refine r_slot_row 3 1000 71 2 rfl rfl rfl ?_
  refine r_loop ?_
  refine r_less (r_inv (fun q : Nat × List Rg => ⟨51, [(9, .d (rgs S)), (10, I .i64 S.length), (11, I .i64 (q.1 : Nat)), (3, .ref (0, 1000))], [(1000, .row 71 2 (q.2.map rgc))], upd H (0, 1000) .gone⟩)
    (fun q => q.1 ≤ S.length ∧ ((q.1 = 0 ∧ q.2 = []) ∨ ∃ pre p, q.2 = pre ++ [p] ∧ pre.length < q.1 ∧ 0 ≤ p.2 ∧ p.2 ≤ 1114111 ∧ pre ++ joinF p (S.drop q.1) = normS S)) (fun q => S.length - q.1) ?_ (0, []) ⟨Nat.zero_le _, .inl ⟨rfl, rfl⟩⟩) rfl rfl
  rintro ⟨i, out⟩ ⟨i1, i2⟩ ih
  simp only at i1 i2 ih ⊢
  by_cases hlt : i < S.length
  · obtain ⟨r, hr⟩ : ∃ r, S[i]? = some r := ⟨_, List.getElem?_eq_getElem hlt⟩
    obtain ⟨b1, b2, b3⟩ := hbs r (List.mem_of_getElem? hr)
    rcases i2 with ⟨rfl, rfl⟩ | ⟨pre, p, rfl, j1, j2, j3, j4⟩
    · repeat' (first | (refine k_op1 ?_; (first | refine o_sv rfl (by decide) ?_ | (refine k_load ?_; (first | refine o_val (v_loadea rfl rfl) rfl rfl (by decide) ?_ | refine o_val (v_loadp rfl rfl rfl rfl) rfl rfl (by decide) ?_)) | (refine k_index ?_; (refine o_val (v_index (ys := S.map rgc) rfl (by omega) (idx hr) rfl) rfl rfl (by decide) ?_)) | (refine k_bin ?_; (refine o_val (v_add (wi64 (by omega) (by omega))) rfl rfl (by decide) ?_)) | (refine k_blt ?_; (first | refine o_app1 (q := ([] : List Rg)) (g := rgc) rfl rfl r rfl rfl rfl rfl rfl rfl rfl (by decide) (by simp) ?_ | refine o_val (v_lenrm rfl) rfl rfl (by decide) ?_)) | (refine k_store ?_; (refine o_store0 rfl rfl rfl rfl rfl rfl ?_)) | (refine k_alloc ?_; (refine o_does (d_alloc rfl rfl (by decide)) ?_)) | (refine k_lit ?_; (refine o_lit rfl rfl rfl rfl rfl rfl rfl rfl (by decide) ?_)))) | (refine k_ops ?_; (first | refine o_go (by first | exact .inl rfl | exact .inr ⟨_, _, _, rfl, rfl, rfl⟩) ?_ | refine o_nil ?_)) | (refine k_run ?_; (first | refine r_seq ?_ | refine r_region ?_ | refine r_false rfl ?_ | refine r_skip ?_ | refine r_block ?_ | refine r_tr ?_ | refine r_inBlock ?_ | refine r_if rfl (fun _ => ?_) (fun _ => ?_) | refine r_exit rfl ?_)) | (refine k_tr ?_; (first | (refine kt_end ?_; refine t_end mix (by kernel_rfl) ?_) | refine t_pass rfl rfl (by decide) ?_ | refine t_sv rfl (by first | exact rfl | exact ⟨_, rfl, rfl, rfl⟩) (by decide) ?_)))
      all_goals try (exfalso; omega)
      refine r_ren 48 1000 rfl rfl ?_
      exact r_less (ih (1, [r]) ⟨by simp only; omega, .inr ⟨[], r, rfl, by simp, by omega, b3, by rw [List.nil_append, ← show normS (r :: S.drop 1) = joinF r (S.drop 1) from rfl, ← drop_cons hr, List.drop_zero]⟩⟩ (by simp only; omega)) rfl rfl
    · rw [drop_cons hr, joinF] at j4
      have hla : ((pre ++ [p]).length : Int) = pre.length + 1 := by simp
      by_cases hc : r.1 ≤ p.2 + 1
      · rw [if_pos hc] at j4
        repeat' (first | (refine k_op1 ?_; (first | refine o_sv rfl (by decide) ?_ | (refine k_load ?_; (first | refine o_val (v_loadea rfl rfl) rfl rfl (by decide) ?_ | refine o_val (v_loadp rfl rfl rfl rfl) rfl rfl (by decide) ?_)) | (refine k_index ?_; (refine o_val (v_index (ys := S.map rgc) rfl (by omega) (idx hr) rfl) rfl rfl (by decide) ?_)) | (refine k_bin ?_; (refine o_val (v_add (wi64 (by omega) (by omega))) rfl rfl (by decide) ?_)) | (refine k_blt ?_; (first | refine o_val (v_lenrm rfl) rfl rfl (by decide) ?_ | refine o_app1 rfl rfl _ rfl rfl rfl rfl rfl rfl rfl (by decide) (by omega) ?_)) | (refine k_store ?_; (refine o_store0 rfl rfl rfl rfl rfl rfl ?_)) | (refine k_alloc ?_; (refine o_does (d_alloc rfl rfl (by decide)) ?_)) | (refine k_lit ?_; (refine o_lit rfl rfl rfl rfl rfl rfl rfl rfl (by decide) ?_)))) | (refine k_ops ?_; (first | refine o_go (by first | exact .inl rfl | exact .inr ⟨_, _, _, rfl, rfl, rfl⟩) ?_ | refine o_nil ?_)) | (refine k_run ?_; (first | refine r_seq ?_ | refine r_region ?_ | refine r_false rfl ?_ | refine r_skip ?_ | refine r_block ?_ | refine r_tr ?_ | refine r_inBlock ?_ | refine r_if rfl (fun _ => ?_) (fun _ => ?_) | refine r_exit rfl ?_)) | (refine k_tr ?_; (first | (refine kt_end ?_; refine t_end mix (by kernel_rfl) ?_) | refine t_pass rfl rfl (by decide) ?_ | refine t_sv rfl (by first | exact rfl | exact ⟨_, rfl, rfl, rfl⟩) (by decide) ?_ | (refine kt_load ?_; (first | refine t_val (v_rloadm get_last rfl rfl rfl) (by first | exact rfl | exact ⟨_, rfl, rfl, rfl⟩) rfl rfl (by decide) ?_ | refine t_val (v_load rfl rfl rfl rfl) (by first | exact rfl | exact ⟨_, rfl, rfl, rfl⟩) rfl rfl (by decide) ?_)) | (refine kt_field ?_; (first | refine t_val (v_field rfl rfl) (by first | exact rfl | exact ⟨_, rfl, rfl, rfl⟩) rfl rfl (by decide) ?_ | refine t_val (v_fieldr rfl rfl) (by first | exact rfl | exact ⟨_, rfl, rfl, rfl⟩) rfl rfl (by decide) ?_)) | (refine kt_index ?_; (refine t_val (v_rindex rfl (by omega) (by rw [List.length_map]; omega) rfl) (by first | exact rfl | exact ⟨_, rfl, rfl, rfl⟩) rfl rfl (by decide) ?_)) | (refine kt_bin ?_; (first | refine t_val (v_add (wi32 (by omega) (by omega))) (by first | exact rfl | exact ⟨_, rfl, rfl, rfl⟩) rfl rfl (by decide) ?_ | refine t_val (v_sub (wi64 (by omega) (by omega))) (by first | exact rfl | exact ⟨_, rfl, rfl, rfl⟩) rfl rfl (by decide) ?_)) | (refine kt_blt ?_; (refine t_val v_max (by first | exact rfl | exact ⟨_, rfl, rfl, rfl⟩) rfl rfl (by decide) ?_)) | (refine kt_store ?_; (refine t_rstorem (p.1, max p.2 r.2) (by first | exact rfl | exact ⟨_, rfl, rfl, rfl⟩) rfl rfl rfl rfl get_last rfl rfl rfl set_last ?_)) | (refine t_either rfl rfl (fun hg => ?_) (fun hg => ?_) <;> simp only [hg] <;> (try simp only [decide_eq_true_eq, decide_eq_false_iff_not, Bool.not_eq_true', Bool.not_eq_false'] at hg)))))
        all_goals try (exfalso; omega)
        exact r_less (ih (i + 1, pre ++ [(p.1, max p.2 r.2)]) ⟨by simp only; omega, .inr ⟨pre, _, rfl, by simp only; omega, by simp only; omega, by simp only; omega, j4⟩⟩ (by simp only; omega)) rfl rfl
      · rw [if_neg hc] at j4
        repeat' (first | (refine k_op1 ?_; (first | refine o_sv rfl (by decide) ?_ | (refine k_load ?_; (first | refine o_val (v_loadea rfl rfl) rfl rfl (by decide) ?_ | refine o_val (v_loadp rfl rfl rfl rfl) rfl rfl (by decide) ?_)) | (refine k_index ?_; (refine o_val (v_index (ys := S.map rgc) rfl (by omega) (idx hr) rfl) rfl rfl (by decide) ?_)) | (refine k_bin ?_; (refine o_val (v_add (wi64 (by omega) (by omega))) rfl rfl (by decide) ?_)) | (refine k_blt ?_; (first | refine o_app1 (g := rgc) rfl rfl r rfl rfl rfl rfl rfl rfl rfl (by decide) (by omega) ?_ | refine o_val (v_lenrm rfl) rfl rfl (by decide) ?_)) | (refine k_store ?_; (refine o_store0 rfl rfl rfl rfl rfl rfl ?_)) | (refine k_alloc ?_; (refine o_does (d_alloc rfl rfl (by decide)) ?_)) | (refine k_lit ?_; (refine o_lit rfl rfl rfl rfl rfl rfl rfl rfl (by decide) ?_)))) | (refine k_ops ?_; (first | refine o_go (by first | exact .inl rfl | exact .inr ⟨_, _, _, rfl, rfl, rfl⟩) ?_ | refine o_nil ?_)) | (refine k_run ?_; (first | refine r_seq ?_ | refine r_region ?_ | refine r_false rfl ?_ | refine r_skip ?_ | refine r_block ?_ | refine r_tr ?_ | refine r_inBlock ?_ | refine r_if rfl (fun _ => ?_) (fun _ => ?_) | refine r_exit rfl ?_)) | (refine k_tr ?_; (first | (refine kt_end ?_; refine t_end mix (by kernel_rfl) ?_) | refine t_pass rfl rfl (by decide) ?_ | refine t_sv rfl (by first | exact rfl | exact ⟨_, rfl, rfl, rfl⟩) (by decide) ?_ | (refine kt_load ?_; (first | refine t_val (v_rloadm get_last rfl rfl rfl) (by first | exact rfl | exact ⟨_, rfl, rfl, rfl⟩) rfl rfl (by decide) ?_ | refine t_val (v_load rfl rfl rfl rfl) (by first | exact rfl | exact ⟨_, rfl, rfl, rfl⟩) rfl rfl (by decide) ?_)) | (refine kt_field ?_; (first | refine t_val (v_field rfl rfl) (by first | exact rfl | exact ⟨_, rfl, rfl, rfl⟩) rfl rfl (by decide) ?_ | refine t_val (v_fieldr rfl rfl) (by first | exact rfl | exact ⟨_, rfl, rfl, rfl⟩) rfl rfl (by decide) ?_)) | (refine kt_index ?_; (refine t_val (v_rindex rfl (by omega) (by rw [List.length_map]; omega) rfl) (by first | exact rfl | exact ⟨_, rfl, rfl, rfl⟩) rfl rfl (by decide) ?_)) | (refine kt_bin ?_; (first | refine t_val (v_add (wi32 (by omega) (by omega))) (by first | exact rfl | exact ⟨_, rfl, rfl, rfl⟩) rfl rfl (by decide) ?_ | refine t_val (v_sub (wi64 (by omega) (by omega))) (by first | exact rfl | exact ⟨_, rfl, rfl, rfl⟩) rfl rfl (by decide) ?_)) | (refine kt_blt ?_; (refine t_val v_max (by first | exact rfl | exact ⟨_, rfl, rfl, rfl⟩) rfl rfl (by decide) ?_)) | (refine t_either rfl rfl (fun hg => ?_) (fun hg => ?_) <;> simp only [hg] <;> (try simp only [decide_eq_true_eq, decide_eq_false_iff_not, Bool.not_eq_true', Bool.not_eq_false'] at hg)))))
        all_goals try (exfalso; omega)
        refine r_ren 48 1000 rfl rfl ?_
        exact r_less (ih (i + 1, pre ++ [p] ++ [r]) ⟨by simp only; omega, .inr ⟨pre ++ [p], r, rfl, by simp only [List.length_append, List.length_singleton]; omega, by omega, b3, by rw [List.append_assoc]; exact j4⟩⟩ (by simp only; omega)) rfl rfl
  · obtain rfl : i = S.length := by omega
    rw [List.drop_length] at i2
    have hout : out = normS S := by
      rcases i2 with ⟨h1, rfl⟩ | ⟨pre, p, rfl, j1, j2, j3, j4⟩
      · rw [List.length_eq_zero_iff.1 h1]; rfl
      · rw [← j4, joinF]
    rw [← hout]
    repeat' (first | (refine k_op1 ?_; (refine o_sv rfl (by decide) ?_)) | (refine k_ops ?_; (first | refine o_go (by first | exact .inl rfl | exact .inr ⟨_, _, _, rfl, rfl, rfl⟩) ?_ | refine o_nil ?_)) | (refine k_run ?_; (first | refine r_seq ?_ | refine r_region ?_ | refine r_skip ?_ | refine r_block ?_ | refine r_if rfl (fun _ => ?_) (fun _ => ?_) | refine r_exit rfl ?_)))
    all_goals try (exfalso; omega)
    refine r_freeze 1000 rfl ?_
    exact r_ret Tryd.func85 _ (res_one rfl rfl) ⟨rfl, rfl⟩
end Go.Proofs.YtjmbjgecfpggdaaDoor
namespace Go.Proofs.YtjmbjgecfpggdaaDoor
open Go.Ab Go.Rx
set_option maxHeartbeats 20000000
set_option maxRecDepth 100000
set_option linter.unusedVariables false
set_option linter.unusedSimpArgs false
set_option linter.unusedSectionVars false
attribute [local irreducible] Run Ops Op1 Does Val Tr PureF Eff1 NF Rel EffV EffM
abbrev eX (e : Rx) : D := .agg (rxc e)
theorem pChr_at {sp : List Int} {s : ByteArray} {i : Nat} {c : Int} {r : List U} (hi : i ≤ s.size) (h : pChr sp (rst s i) = .ok c r) : (0 ≤ c ∧ c ≤ 1114111) ∧ ∃ j, i < j ∧ j ≤ s.size ∧ r = rst s j := by
  have h1 := pChr_sfx sp (rst s i)
  have hr : 0 ≤ c ∧ c ≤ 1114111 := by
    have hlt : i < s.size := by
      false_or_by_contra
      rw [rst_ge (by omega)] at h; simp [pChr] at h
    have g0 := dec_hi s i
    rw [rst_lt hlt, pChr_cons] at h
    split at h
    · by_cases h2 : i + (Utf8.decode s i).2 < s.size
      · have g1 := dec_hi s (i + (Utf8.decode s i).2)
        rw [rst_lt h2] at h
        simp only at h
        split at h
        · simp only [Rd.ok.injEq] at h; omega
        · simp at h
      · rw [rst_ge (by omega)] at h; simp at h
    · split at h
      · simp at h
      · simp only [Rd.ok.injEq] at h; omega
  rw [h] at h1
  obtain ⟨j, g1, g2, rfl⟩ := rst_sfx s _ i r (Nat.le_refl _) hi h1.1
  refine ⟨hr, j, ?_, g2, rfl⟩
  rcases Nat.lt_or_ge i j with h3 | h3
  · exact h3
  · obtain rfl : i = j := by omega
    exact absurd h1.2 (Nat.lt_irrefl _)
theorem pChr_out {sp : List Int} {l : List U} : pChr sp l ≠ .out := by
  intro h
  cases l with
  | nil => simp [pChr] at h
  | cons c l =>
    rw [pChr_cons] at h
    split at h
    · cases l with
      | nil => simp at h
      | cons d l => simp only at h; split at h <;> simp at h
    · split at h <;> simp at h
theorem insF_len (r : Rg) : ∀ l : List Rg, (insF r l).length = l.length + 1
  | [] => rfl
  | x :: l => by rw [insF]; split <;> simp [insF_len r l]
theorem sortF_len : ∀ (l acc : List Rg), (l.foldl (fun a r => insF r a) acc).length = l.length + acc.length
  | [], acc => by simp
  | r :: l, acc => by rw [List.foldl_cons, sortF_len l, insF_len, List.length_cons]; omega
theorem joinF_len : ∀ (l : List Rg) (p : Rg), (joinF p l).length ≤ l.length + 1
  | [], p => by simp [joinF]
  | r :: l, p => by
    rw [joinF]; split
    · have := joinF_len l (p.1, max p.2 r.2); simp only [List.length_cons]; omega
    · have := joinF_len l r; simp only [List.length_cons]; omega
theorem norm_len (l : List Rg) : (norm l).length ≤ l.length := by
  have h := sortF_len l []
  rw [norm, sortF]
  cases hs : l.foldl (fun a r => insF r a) [] with
  | nil => simp [normS]
  | cons r q =>
    rw [hs] at h
    have := joinF_len q r
    rw [normS]; simp at h; omega
theorem norm_rng {l : List Rg} (h : ∀ r ∈ l, 0 ≤ r.1 ∧ r.1 ≤ r.2 ∧ r.2 ≤ 1114111) : ∀ r ∈ norm l, 0 ≤ r.1 ∧ r.1 ≤ 1114111 ∧ 0 ≤ r.2 ∧ r.2 ≤ 1114111 := by
  obtain ⟨h1, h2⟩ := norm_spec (a := 0) fun r hr => ⟨(h r hr).1, (h r hr).2.1⟩
  intro r hr
  have hle := nrm_hi.nrm_le h1 r hr
  have key : ∀ c, inS (norm l) c → 0 ≤ c ∧ c ≤ 1114111 := fun c hc => by
    obtain ⟨x, hx, h3, h4⟩ := (h2 c).1 hc
    have := h x hx; omega
  have k1 := key r.1 ⟨r, hr, Int.le_refl _, hle⟩
  have k2 := key r.2 ⟨r, hr, hle, Int.le_refl _⟩
  omega
/-- what a class is, its ranges read -/
def clsF (b : Bool) (L : List U) : Rd (List Rg) → Rd Rx
  | .out => .out
  | .err a e => .err a e
  | .ok rs l1 => if b = true then (if (negR rs).length = 0 then .err L 1 else .ok (rset (negR rs)) l1) else .ok (rset (norm rs)) l1
theorem pCls_t {n : Nat} {l : List U} (h : nx l.tail = 94) : pCls n l = clsF true l (pRngs n [] l.tail.tail) := by
  rw [pCls, if_pos h]
  cases pRngs n [] l.tail.tail <;> rfl
theorem pCls_f {n : Nat} {l : List U} (h : nx l.tail ≠ 94) : pCls n l = clsF false l (pRngs n [] l.tail) := by
  rw [pCls, if_neg h]
  cases pRngs n [] l.tail <;> rfl
section
variable {X : Nat} (hX0 : X ≠ 700) (hX1 : X ≠ 701) (τ : Tab) (s : ByteArray) (hs : s.size ≤ 1000000)
include hX0 hX1 hs
theorem class_s (n i : Nat) (hi : i ≤ s.size) (h91 : nx (rst s i) = 91) (hne : pCls n (rst s i) ≠ .out) (e0 : Nat) :
    Eff1 Tryd.prog 75 [.ptr (e0, X) 0] (((e0, X), pbx s i 0 0) :: tabs τ (e0 + 1)) [((e0, X), bkOf s (pCls n (rst s i)))] (rsOf eX (eX nil0) (pCls n (rst s i))) := by
  refine eff_of fun H hH => ?_
  have hX : H e0 X = some (pbx s i 0 0) := hH ((e0, X), pbx s i 0 0) (by simp)
  have hT : HT τ (e0 + 1) H := HT.of (bs := [((e0, X), pbx s i 0 0)]) hH
  refine spec_of Tryd.func75 (by kernel_rfl) rfl (by simp) ?_
  dsimp only [Tryd.f75]
  obtain ⟨hlt, ht, he⟩ := rst_asc hi h91 (by decide) (by decide)
  have hn1 := next_s (X := X) τ s (i + 1) hlt 0 0 (e0 + 1)
  by_cases hng : nx (rst s (i + 1)) = 94
  · obtain ⟨hlt1, ht1, he1⟩ := rst_asc (i := i + 1) hlt hng (by decide) (by decide)
    have hq : pCls n (rst s i) = clsF true (rst s i) (pRngs n [] (rst s (i + 2))) := by rw [pCls_t (by rw [ht]; exact hng), ht, ht1]
    have hj0 : i + 2 ≤ s.size := hlt1
    rw [hng] at hn1
    obtain ⟨T, hT0⟩ : ∃ T, pRngs n [] (rst s (i + 2)) = T := ⟨_, rfl⟩
    rw [hT0] at hq
    rw [hq] at hne ⊢
    repeat' (first | (refine k_op1 ?_; (first | refine o_sv rfl (by decide) ?_ | (refine k_load ?_; (first | refine o_loadu rfl (upd_get _ (e0, X) _) rfl rfl rfl rfl (by decide) ?_ | refine o_loadu rfl hX rfl rfl rfl rfl (by decide) ?_)) | (refine k_field ?_; (refine o_val (v_field rfl rfl) rfl rfl (by decide) ?_)) | (refine k_bin ?_; (refine o_val (v_add (wi64 (by omega) (by omega))) rfl rfl (by decide) ?_)) | (refine k_call ?_; (refine o_effd hn1 rfl (bk_cons (m := (e0 + 1, X)) (upd_get _ (e0, X) _) (bkT (by repeat (first | exact hT | refine HT.upd ?_ hX0 hX1)))) (by decide) ?_)) | (refine k_store ?_; (first | refine o_storeu (raw' := pbx s ((i + 2 : Nat) : Int) 0 0) rfl (upd_get _ (e0, X) _) rfl rfl rfl rfl rfl rfl ?_ | refine o_storeu (raw' := pbx s ((i + 1 : Nat) : Int) 0 0) rfl hX rfl rfl rfl rfl rfl rfl ?_)) | (refine k_alloc ?_; (refine o_does (d_alloc rfl rfl (by decide)) ?_)))) | (refine k_ops ?_; (first | refine o_go (by first | exact .inl rfl | exact .inr ⟨_, _, _, rfl, rfl, rfl⟩) ?_ | refine o_nil ?_)) | (refine k_run ?_; (first | refine r_seq ?_ | refine r_region ?_ | refine r_true rfl ?_ | refine r_block ?_)))
    all_goals try (exfalso; omega)
    rw [upd_upd']
    refine r_slot_row 6 1000 71 2 rfl rfl rfl ?_
    refine r_loop ?_
    refine r_less (r_inv (fun q : Nat × List Rg × Nat => ⟨108, [(0, .ptr (e0 + 1, X) 0), (2, .ptr (0, 2) 0), (4, I .i64 (i : Nat)), (5, B true), (6, .ref (0, 1000))], [(1000, .row 71 2 (q.2.1.map rgc)), (2, .box (zeroP [Value.int .i64 0, Value.int .i64 0, Value.int .i64 0, nilS, nilS]))], upd H (e0, X) (pbx s (q.2.2 : Nat) 0 0)⟩)
      (fun q => q.2.2 ≤ s.size ∧ q.2.1.length ≤ q.2.2 ∧ (∀ r ∈ q.2.1, 0 ≤ r.1 ∧ r.1 ≤ r.2 ∧ r.2 ≤ 1114111) ∧ pRngs q.1 q.2.1 (rst s q.2.2) = T) (fun q => q.1) ?_ (n, [], (i + 2)) ⟨hj0, Nat.zero_le _, by simp, hT0⟩) rfl rfl
    rintro ⟨m, acc, j⟩ ⟨i1, i2, i3, i4⟩ ih
    simp only at i1 i2 i3 i4 ih ⊢
    cases m with
    | zero => rw [pRngs] at i4; subst i4; exact absurd rfl hne
    | succ m =>
    have hnj := next_s (X := X) τ s j i1 0 0 (e0 + 1)
    rw [pRngs] at i4
    by_cases hend : acc ≠ [] ∧ nx (rst s j) = 93
    · rw [if_pos hend] at i4
      have hacc : (acc.length : Int) ≠ 0 := by
        have := List.length_pos_iff.2 hend.1; omega
      obtain ⟨hjl, htj, hej⟩ := rst_asc i1 hend.2 (by decide) (by decide)
      rw [htj] at i4
      subst i4
      have hmg := merged_s acc (by omega) i3
      have hnl := norm_len acc
      have hnr := norm_rng i3
      rw [hend.2] at hnj
      have ho := others_s (norm acc) (by omega) hnr
      by_cases h0 : (negF 0 (norm acc)).length = 0
      · rw [show clsF true (rst s i) (.ok acc (rst s (j + 1))) = .err (rst s i) 1 by rw [clsF, if_pos rfl, negR, if_pos h0], bk_err hi]
        have hf := fail_s (X := X) s (I .i64 ((j + 1 : Nat) : Int)) (i : Nat) 1 (e0 + 1) (by decide)
        repeat' (first | (refine k_op1 ?_; (first | refine o_sv rfl (by decide) ?_ | (refine k_load ?_; (refine o_loadu rfl (upd_get _ (e0, X) _) rfl rfl rfl rfl (by decide) ?_)) | (refine k_field ?_; (refine o_val (v_field rfl rfl) rfl rfl (by decide) ?_)) | (refine k_bin ?_; (refine o_val (v_add (wi64 (by omega) (by omega))) rfl rfl (by decide) ?_)) | (refine k_blt ?_; (first | refine o_val (v_lenm rfl) rfl rfl (by decide) ?_ | refine o_val (v_lenrm rfl) rfl rfl (by decide) ?_)) | (refine k_call ?_; (first | refine o_effu hf rfl (upd_get _ (e0, X) _) (by decide) ?_ | refine o_effd hnj rfl (bk_cons (m := (e0 + 1, X)) (upd_get _ (e0, X) _) (bkT (by repeat (first | exact hT | refine HT.upd ?_ hX0 hX1)))) (by decide) ?_ | refine o_eff1 hmg rfl rfl (by decide) ?_ | refine o_fn ho rfl (by decide) ?_)) | (refine k_store ?_; (first | refine o_storeu (raw' := pbx s ((j + 1 : Nat) : Int) 0 0) rfl (upd_get _ (e0, X) _) rfl rfl rfl rfl rfl rfl ?_ | refine o_store0 rfl rfl rfl rfl rfl rfl ?_)) | (refine k_build ?_; (refine o_build rfl rfl rfl rfl rfl rfl rfl (by decide) ?_)))) | (refine k_ops ?_; (first | refine o_go (by first | exact .inl rfl | exact .inr ⟨_, _, _, rfl, rfl, rfl⟩) ?_ | refine o_nil ?_ | refine o_no rfl rfl (by decide) ?_ | refine o_casep rfl rfl (fun _ => ?_) (fun _ => ?_))) | (refine k_run ?_; (first | refine r_seq ?_ | refine r_region ?_ | refine r_true rfl ?_ | refine r_false rfl ?_ | refine r_skip ?_ | refine r_block ?_ | refine r_if rfl (fun _ => ?_) (fun _ => ?_) | refine r_exit rfl ?_)))
        all_goals try (exfalso; omega)
        all_goals ((repeat rw [upd_upd']); refine r_weak wkP ?_; first | exact r_ret Tryd.func75 _ (res_cell_one rfl rfl rfl rfl rfl rfl rfl) ⟨rfl, rfl⟩ | exact r_ret Tryd.func75 _ (res_two rfl rfl rfl) ⟨rfl, rfl⟩ | exact r_ret Tryd.func75 _ (res_one rfl rfl) ⟨rfl, rfl⟩ | exact r_ret Tryd.func75 _ (res_three rfl rfl rfl rfl) ⟨rfl, rfl⟩)
      · rw [show clsF true (rst s i) (.ok acc (rst s (j + 1))) = .ok (rset (negR acc)) (rst s (j + 1)) by rw [clsF, if_pos rfl]; rw [negR, if_neg h0], bk_ok hjl]
        repeat' (first | (refine k_op1 ?_; (first | refine o_sv rfl (by decide) ?_ | (refine k_load ?_; (refine o_loadu rfl (upd_get _ (e0, X) _) rfl rfl rfl rfl (by decide) ?_)) | (refine k_field ?_; (refine o_val (v_field rfl rfl) rfl rfl (by decide) ?_)) | (refine k_bin ?_; (refine o_val (v_add (wi64 (by omega) (by omega))) rfl rfl (by decide) ?_)) | (refine k_blt ?_; (first | refine o_val (v_lenm rfl) rfl rfl (by decide) ?_ | refine o_val (v_lenrm rfl) rfl rfl (by decide) ?_)) | (refine k_call ?_; (first | refine o_effd hnj rfl (bk_cons (m := (e0 + 1, X)) (upd_get _ (e0, X) _) (bkT (by repeat (first | exact hT | refine HT.upd ?_ hX0 hX1)))) (by decide) ?_ | refine o_eff1 hmg rfl rfl (by decide) ?_ | refine o_fn ho rfl (by decide) ?_)) | (refine k_store ?_; (first | refine o_storeu (raw' := pbx s ((j + 1 : Nat) : Int) 0 0) rfl (upd_get _ (e0, X) _) rfl rfl rfl rfl rfl rfl ?_ | refine o_store0 rfl rfl rfl rfl rfl rfl ?_)) | (refine k_build ?_; (refine o_build rfl rfl rfl rfl rfl rfl rfl (by decide) ?_)))) | (refine k_ops ?_; (first | refine o_go (by first | exact .inl rfl | exact .inr ⟨_, _, _, rfl, rfl, rfl⟩) ?_ | refine o_nil ?_ | refine o_no rfl rfl (by decide) ?_ | refine o_casep rfl rfl (fun _ => ?_) (fun _ => ?_))) | (refine k_run ?_; (first | refine r_seq ?_ | refine r_region ?_ | refine r_true rfl ?_ | refine r_false rfl ?_ | refine r_skip ?_ | refine r_block ?_ | refine r_if rfl (fun _ => ?_) (fun _ => ?_) | refine r_exit rfl ?_)))
        all_goals try (exfalso; omega)
        all_goals ((repeat rw [upd_upd']); first | exact r_ret Tryd.func75 _ (res_cell_one rfl rfl rfl rfl rfl rfl rfl) ⟨rfl, rfl⟩ | exact r_ret Tryd.func75 _ (res_two rfl rfl rfl) ⟨rfl, rfl⟩ | exact r_ret Tryd.func75 _ (res_one rfl rfl) ⟨rfl, rfl⟩ | exact r_ret Tryd.func75 _ (res_three rfl rfl rfl rfl) ⟨rfl, rfl⟩)
    · rw [if_neg hend] at i4
      have hm := member_s hX0 hX1 τ s hs j i1 (e0 + 1)
      have hnd : acc.length ≠ 0 → nx (rst s j) ≠ 93 := fun h h2 => hend ⟨fun h3 => h (by rw [h3]; rfl), h2⟩
      rcases hp : pChr spC (rst s j) with ⟨a, r⟩ | ⟨a, e⟩ | _
      · obtain ⟨⟨ha0, ha1⟩, j1, hj1, hj1s, rfl⟩ := pChr_at i1 hp
        rw [hp, bk_ok hj1s] at hm
        have hn2 := next_s (X := X) τ s j1 hj1s 0 0 (e0 + 1)
        by_cases h45 : nx (rst s j1) = 45
        · obtain ⟨hjl, htj, hej⟩ := rst_asc hj1s h45 (by decide) (by decide)
          have hm2 := member_s hX0 hX1 τ s hs (j1 + 1) hjl (e0 + 1)
          rcases hp2 : pChr spC (rst s (j1 + 1)) with ⟨b, r⟩ | ⟨b, e⟩ | _
          · obtain ⟨⟨hb0, hb1⟩, j2, hj2, hj2s, rfl⟩ := pChr_at hjl hp2
            rw [hp2, bk_ok hj2s] at hm2
            by_cases hba : b < a
            · have hpr : pRng (rst s j) = .err (rst s j) 8 := by
                rw [pRng, hp]; simp only
                rw [if_pos h45, htj, hp2]; simp only
                rw [if_pos hba]
              rw [hpr] at i4
              subst i4
              rw [clsF, bk_err i1]
              have hf := fail_s (X := X) s (I .i64 (j2 : Nat)) (j : Nat) 8 (e0 + 1) (by decide)
              repeat' (first | (refine k_op1 ?_; (first | refine o_sv rfl (by decide) ?_ | (refine k_load ?_; (refine o_loadu rfl (upd_get _ (e0, X) _) rfl rfl rfl rfl (by decide) ?_)) | (refine k_field ?_; (refine o_val (v_field rfl rfl) rfl rfl (by decide) ?_)) | (refine k_bin ?_; (refine o_val (v_add (wi64 (by omega) (by omega))) rfl rfl (by decide) ?_)) | (refine k_blt ?_; (refine o_val (v_lenrm rfl) rfl rfl (by decide) ?_)) | (refine k_call ?_; (first | refine o_effu hf rfl (upd_get _ (e0, X) _) (by decide) ?_ | refine o_effut hm2 rfl (upd_get _ (e0, X) _) (bkT (by repeat (first | exact hT | refine HT.upd ?_ hX0 hX1))) (by decide) ?_ | refine o_effut hm rfl (upd_get _ (e0, X) _) (bkT (by repeat (first | exact hT | refine HT.upd ?_ hX0 hX1))) (by decide) ?_ | refine o_effd hn2 rfl (bk_cons (m := (e0 + 1, X)) (upd_get _ (e0, X) _) (bkT (by repeat (first | exact hT | refine HT.upd ?_ hX0 hX1)))) (by decide) ?_ | refine o_effd hnj rfl (bk_cons (m := (e0 + 1, X)) (upd_get _ (e0, X) _) (bkT (by repeat (first | exact hT | refine HT.upd ?_ hX0 hX1)))) (by decide) ?_)) | (refine k_store ?_; (first | refine o_storeu (raw' := pbx s ((j1 + 1 : Nat) : Int) 0 0) rfl (upd_get _ (e0, X) _) rfl rfl rfl rfl rfl rfl ?_ | refine o_store0 rfl rfl rfl rfl rfl rfl ?_)) | (refine k_build ?_; (refine o_build rfl rfl rfl rfl rfl rfl rfl (by decide) ?_)) | (refine k_lit ?_; (refine o_lit rfl rfl rfl rfl rfl rfl rfl rfl (by decide) ?_)))) | (refine k_ops ?_; (first | refine o_go (by first | exact .inl rfl | exact .inr ⟨_, _, _, rfl, rfl, rfl⟩) ?_ | refine o_nil ?_ | refine o_no rfl rfl (by decide) ?_ | refine o_casep rfl rfl (fun _ => ?_) (fun _ => ?_))) | (refine k_run ?_; (first | refine r_seq ?_ | refine r_region ?_ | refine r_true rfl ?_ | refine r_false rfl ?_ | refine r_skip ?_ | refine r_block ?_ | refine r_if rfl (fun _ => ?_) (fun _ => ?_) | refine r_ifn rfl (fun _ => ?_) (fun _ => ?_) | refine r_exit rfl ?_)))
              all_goals try (exfalso; omega)
              all_goals ((repeat rw [upd_upd']); refine r_weak wkP ?_; first | exact r_ret Tryd.func75 _ (res_cell_one rfl rfl rfl rfl rfl rfl rfl) ⟨rfl, rfl⟩ | exact r_ret Tryd.func75 _ (res_two rfl rfl rfl) ⟨rfl, rfl⟩ | exact r_ret Tryd.func75 _ (res_one rfl rfl) ⟨rfl, rfl⟩ | exact r_ret Tryd.func75 _ (res_three rfl rfl rfl rfl) ⟨rfl, rfl⟩)
            · have hpr : pRng (rst s j) = .ok (a, b) (rst s j2) := by
                rw [pRng, hp]; simp only
                rw [if_pos h45, htj, hp2]; simp only
                rw [if_neg hba]
              rw [hpr] at i4
              simp only at i4
              repeat' (first | (refine k_op1 ?_; (first | refine o_sv rfl (by decide) ?_ | (refine k_load ?_; (refine o_loadu rfl (upd_get _ (e0, X) _) rfl rfl rfl rfl (by decide) ?_)) | (refine k_field ?_; (refine o_val (v_field rfl rfl) rfl rfl (by decide) ?_)) | (refine k_bin ?_; (refine o_val (v_add (wi64 (by omega) (by omega))) rfl rfl (by decide) ?_)) | (refine k_blt ?_; (first | refine o_app1 (g := rgc) rfl rfl (a, b) rfl rfl rfl rfl rfl rfl rfl (by decide) (by omega) ?_ | refine o_val (v_lenrm rfl) rfl rfl (by decide) ?_)) | (refine k_call ?_; (first | refine o_effut hm2 rfl (upd_get _ (e0, X) _) (bkT (by repeat (first | exact hT | refine HT.upd ?_ hX0 hX1))) (by decide) ?_ | refine o_effut hm rfl (upd_get _ (e0, X) _) (bkT (by repeat (first | exact hT | refine HT.upd ?_ hX0 hX1))) (by decide) ?_ | refine o_effd hn2 rfl (bk_cons (m := (e0 + 1, X)) (upd_get _ (e0, X) _) (bkT (by repeat (first | exact hT | refine HT.upd ?_ hX0 hX1)))) (by decide) ?_ | refine o_effd hnj rfl (bk_cons (m := (e0 + 1, X)) (upd_get _ (e0, X) _) (bkT (by repeat (first | exact hT | refine HT.upd ?_ hX0 hX1)))) (by decide) ?_)) | (refine k_store ?_; (refine o_storeu (raw' := pbx s ((j1 + 1 : Nat) : Int) 0 0) rfl (upd_get _ (e0, X) _) rfl rfl rfl rfl rfl rfl ?_)) | (refine k_build ?_; (refine o_build rfl rfl rfl rfl rfl rfl rfl (by decide) ?_)) | (refine k_lit ?_; (refine o_lit rfl rfl rfl rfl rfl rfl rfl rfl (by decide) ?_)))) | (refine k_ops ?_; (first | refine o_go (by first | exact .inl rfl | exact .inr ⟨_, _, _, rfl, rfl, rfl⟩) ?_ | refine o_nil ?_ | refine o_no rfl rfl (by decide) ?_ | refine o_casep rfl rfl (fun _ => ?_) (fun _ => ?_))) | (refine k_run ?_; (first | refine r_seq ?_ | refine r_region ?_ | refine r_true rfl ?_ | refine r_false rfl ?_ | refine r_skip ?_ | refine r_block ?_ | refine r_inBlock ?_ | refine r_if rfl (fun _ => ?_) (fun _ => ?_) | refine r_ifn rfl (fun _ => ?_) (fun _ => ?_) | refine r_exit rfl ?_)))
              all_goals try (exfalso; omega)
              all_goals (refine r_ren 86 1000 rfl rfl ?_; (repeat rw [upd_upd']); exact r_less (ih (m, acc ++ [(a, b)], j2) ⟨hj2s, by simp only [List.length_append, List.length_singleton]; omega, fun r hr => by
                rw [List.mem_append, List.mem_singleton] at hr
                rcases hr with hr | rfl
                · exact i3 r hr
                · simp only; omega, i4⟩ (by simp only; omega)) rfl rfl)
          · rw [hp2] at hm2
            have hpr : pRng (rst s j) = .err b e := by
              rw [pRng, hp]; simp only
              rw [if_pos h45, htj, hp2]
            rw [hpr] at i4
            subst i4
            repeat' (first | (refine k_op1 ?_; (first | refine o_sv rfl (by decide) ?_ | (refine k_load ?_; (refine o_loadu rfl (upd_get _ (e0, X) _) rfl rfl rfl rfl (by decide) ?_)) | (refine k_field ?_; (refine o_val (v_field rfl rfl) rfl rfl (by decide) ?_)) | (refine k_bin ?_; (refine o_val (v_add (wi64 (by omega) (by omega))) rfl rfl (by decide) ?_)) | (refine k_blt ?_; (refine o_val (v_lenrm rfl) rfl rfl (by decide) ?_)) | (refine k_call ?_; (first | refine o_effut hm2 rfl (upd_get _ (e0, X) _) (bkT (by repeat (first | exact hT | refine HT.upd ?_ hX0 hX1))) (by decide) ?_ | refine o_effut hm rfl (upd_get _ (e0, X) _) (bkT (by repeat (first | exact hT | refine HT.upd ?_ hX0 hX1))) (by decide) ?_ | refine o_effd hn2 rfl (bk_cons (m := (e0 + 1, X)) (upd_get _ (e0, X) _) (bkT (by repeat (first | exact hT | refine HT.upd ?_ hX0 hX1)))) (by decide) ?_ | refine o_effd hnj rfl (bk_cons (m := (e0 + 1, X)) (upd_get _ (e0, X) _) (bkT (by repeat (first | exact hT | refine HT.upd ?_ hX0 hX1)))) (by decide) ?_)) | (refine k_store ?_; (first | refine o_storeu (raw' := pbx s ((j1 + 1 : Nat) : Int) 0 0) rfl (upd_get _ (e0, X) _) rfl rfl rfl rfl rfl rfl ?_ | refine o_store0 rfl rfl rfl rfl rfl rfl ?_)) | (refine k_build ?_; (refine o_build rfl rfl rfl rfl rfl rfl rfl (by decide) ?_)) | (refine k_lit ?_; (refine o_lit rfl rfl rfl rfl rfl rfl rfl rfl (by decide) ?_)))) | (refine k_ops ?_; (first | refine o_go (by first | exact .inl rfl | exact .inr ⟨_, _, _, rfl, rfl, rfl⟩) ?_ | refine o_nil ?_ | refine o_no rfl rfl (by decide) ?_ | refine o_casep rfl rfl (fun _ => ?_) (fun _ => ?_))) | (refine k_run ?_; (first | refine r_seq ?_ | refine r_region ?_ | refine r_true rfl ?_ | refine r_false rfl ?_ | refine r_skip ?_ | refine r_block ?_ | refine r_if rfl (fun _ => ?_) (fun _ => ?_) | refine r_ifn rfl (fun _ => ?_) (fun _ => ?_) | refine r_exit rfl ?_)))
            all_goals try (exfalso; omega)
            all_goals ((repeat rw [upd_upd']); first | exact r_ret Tryd.func75 _ (res_cell_one rfl rfl rfl rfl rfl rfl rfl) ⟨rfl, rfl⟩ | exact r_ret Tryd.func75 _ (res_two rfl rfl rfl) ⟨rfl, rfl⟩ | exact r_ret Tryd.func75 _ (res_one rfl rfl) ⟨rfl, rfl⟩ | exact r_ret Tryd.func75 _ (res_three rfl rfl rfl rfl) ⟨rfl, rfl⟩)
          · exact absurd hp2 pChr_out
        · have hpr : pRng (rst s j) = .ok (a, a) (rst s j1) := by
            rw [pRng, hp]; simp only
            rw [if_neg h45]
          rw [hpr] at i4
          simp only at i4
          repeat' (first | (refine k_op1 ?_; (first | refine o_sv rfl (by decide) ?_ | (refine k_load ?_; (refine o_loadu rfl (upd_get _ (e0, X) _) rfl rfl rfl rfl (by decide) ?_)) | (refine k_field ?_; (refine o_val (v_field rfl rfl) rfl rfl (by decide) ?_)) | (refine k_bin ?_; (refine o_val (v_add (wi64 (by omega) (by omega))) rfl rfl (by decide) ?_)) | (refine k_blt ?_; (first | refine o_app1 (g := rgc) rfl rfl (a, a) rfl rfl rfl rfl rfl rfl rfl (by decide) (by omega) ?_ | refine o_val (v_lenrm rfl) rfl rfl (by decide) ?_)) | (refine k_call ?_; (first | refine o_effut hm rfl (upd_get _ (e0, X) _) (bkT (by repeat (first | exact hT | refine HT.upd ?_ hX0 hX1))) (by decide) ?_ | refine o_effd hn2 rfl (bk_cons (m := (e0 + 1, X)) (upd_get _ (e0, X) _) (bkT (by repeat (first | exact hT | refine HT.upd ?_ hX0 hX1)))) (by decide) ?_ | refine o_effd hnj rfl (bk_cons (m := (e0 + 1, X)) (upd_get _ (e0, X) _) (bkT (by repeat (first | exact hT | refine HT.upd ?_ hX0 hX1)))) (by decide) ?_)) | (refine k_build ?_; (refine o_build rfl rfl rfl rfl rfl rfl rfl (by decide) ?_)) | (refine k_lit ?_; (refine o_lit rfl rfl rfl rfl rfl rfl rfl rfl (by decide) ?_)))) | (refine k_ops ?_; (first | refine o_go (by first | exact .inl rfl | exact .inr ⟨_, _, _, rfl, rfl, rfl⟩) ?_ | refine o_nil ?_ | refine o_no rfl rfl (by decide) ?_ | refine o_casep rfl rfl (fun _ => ?_) (fun _ => ?_))) | (refine k_run ?_; (first | refine r_seq ?_ | refine r_region ?_ | refine r_true rfl ?_ | refine r_false rfl ?_ | refine r_skip ?_ | refine r_block ?_ | refine r_inBlock ?_ | refine r_if rfl (fun _ => ?_) (fun _ => ?_) | refine r_ifn rfl (fun _ => ?_) (fun _ => ?_) | refine r_exit rfl ?_)))
          all_goals try (exfalso; omega)
          all_goals (refine r_ren 86 1000 rfl rfl ?_; (repeat rw [upd_upd']); exact r_less (ih (m, acc ++ [(a, a)], j1) ⟨hj1s, by simp only [List.length_append, List.length_singleton]; omega, fun r hr => by
            rw [List.mem_append, List.mem_singleton] at hr
            rcases hr with hr | rfl
            · exact i3 r hr
            · simp only; omega, i4⟩ (by simp only; omega)) rfl rfl)
      · rw [hp] at hm
        have hpr : pRng (rst s j) = .err a e := by rw [pRng, hp]
        rw [hpr] at i4
        subst i4
        repeat' (first | (refine k_op1 ?_; (first | refine o_sv rfl (by decide) ?_ | (refine k_load ?_; (refine o_loadu rfl (upd_get _ (e0, X) _) rfl rfl rfl rfl (by decide) ?_)) | (refine k_field ?_; (refine o_val (v_field rfl rfl) rfl rfl (by decide) ?_)) | (refine k_bin ?_; (refine o_val (v_add (wi64 (by omega) (by omega))) rfl rfl (by decide) ?_)) | (refine k_blt ?_; (refine o_val (v_lenrm rfl) rfl rfl (by decide) ?_)) | (refine k_call ?_; (first | refine o_effut hm rfl (upd_get _ (e0, X) _) (bkT (by repeat (first | exact hT | refine HT.upd ?_ hX0 hX1))) (by decide) ?_ | refine o_effd hnj rfl (bk_cons (m := (e0 + 1, X)) (upd_get _ (e0, X) _) (bkT (by repeat (first | exact hT | refine HT.upd ?_ hX0 hX1)))) (by decide) ?_)) | (refine k_store ?_; (refine o_store0 rfl rfl rfl rfl rfl rfl ?_)) | (refine k_build ?_; (refine o_build rfl rfl rfl rfl rfl rfl rfl (by decide) ?_)))) | (refine k_ops ?_; (first | refine o_go (by first | exact .inl rfl | exact .inr ⟨_, _, _, rfl, rfl, rfl⟩) ?_ | refine o_nil ?_ | refine o_no rfl rfl (by decide) ?_ | refine o_casep rfl rfl (fun _ => ?_) (fun _ => ?_))) | (refine k_run ?_; (first | refine r_seq ?_ | refine r_region ?_ | refine r_true rfl ?_ | refine r_false rfl ?_ | refine r_skip ?_ | refine r_block ?_ | refine r_ifn rfl (fun _ => ?_) (fun _ => ?_) | refine r_exit rfl ?_)))
        all_goals try (exfalso; omega)
        all_goals ((repeat rw [upd_upd']); first | exact r_ret Tryd.func75 _ (res_cell_one rfl rfl rfl rfl rfl rfl rfl) ⟨rfl, rfl⟩ | exact r_ret Tryd.func75 _ (res_two rfl rfl rfl) ⟨rfl, rfl⟩ | exact r_ret Tryd.func75 _ (res_one rfl rfl) ⟨rfl, rfl⟩ | exact r_ret Tryd.func75 _ (res_three rfl rfl rfl rfl) ⟨rfl, rfl⟩)
      · exact absurd hp pChr_out
  · have hq : pCls n (rst s i) = clsF false (rst s i) (pRngs n [] (rst s (i + 1))) := by rw [pCls_f (by rw [ht]; exact hng), ht]
    have hj0 : i + 1 ≤ s.size := hlt
    obtain ⟨T, hT0⟩ : ∃ T, pRngs n [] (rst s (i + 1)) = T := ⟨_, rfl⟩
    rw [hT0] at hq
    rw [hq] at hne ⊢
    repeat' (first | (refine k_op1 ?_; (first | refine o_sv rfl (by decide) ?_ | (refine k_load ?_; (first | refine o_loadu rfl (upd_get _ (e0, X) _) rfl rfl rfl rfl (by decide) ?_ | refine o_loadu rfl hX rfl rfl rfl rfl (by decide) ?_)) | (refine k_field ?_; (refine o_val (v_field rfl rfl) rfl rfl (by decide) ?_)) | (refine k_bin ?_; (refine o_val (v_add (wi64 (by omega) (by omega))) rfl rfl (by decide) ?_)) | (refine k_call ?_; (refine o_effd hn1 rfl (bk_cons (m := (e0 + 1, X)) (upd_get _ (e0, X) _) (bkT (by repeat (first | exact hT | refine HT.upd ?_ hX0 hX1)))) (by decide) ?_)) | (refine k_store ?_; (first | refine o_storeu (raw' := pbx s ((i + 2 : Nat) : Int) 0 0) rfl (upd_get _ (e0, X) _) rfl rfl rfl rfl rfl rfl ?_ | refine o_storeu (raw' := pbx s ((i + 1 : Nat) : Int) 0 0) rfl hX rfl rfl rfl rfl rfl rfl ?_)) | (refine k_alloc ?_; (refine o_does (d_alloc rfl rfl (by decide)) ?_)))) | (refine k_ops ?_; (first | refine o_go (by first | exact .inl rfl | exact .inr ⟨_, _, _, rfl, rfl, rfl⟩) ?_ | refine o_nil ?_)) | (refine k_run ?_; (first | refine r_seq ?_ | refine r_region ?_ | refine r_skip ?_ | refine r_block ?_ | refine r_if rfl (fun _ => ?_) (fun _ => ?_))))
    all_goals try (exfalso; omega)
    rw [decide_eq_false hng]
    refine r_slot_row 6 1000 71 2 rfl rfl rfl ?_
    refine r_loop ?_
    refine r_less (r_inv (fun q : Nat × List Rg × Nat => ⟨108, [(0, .ptr (e0 + 1, X) 0), (2, .ptr (0, 2) 0), (4, I .i64 (i : Nat)), (5, B false), (6, .ref (0, 1000))], [(1000, .row 71 2 (q.2.1.map rgc)), (2, .box (zeroP [Value.int .i64 0, Value.int .i64 0, Value.int .i64 0, nilS, nilS]))], upd H (e0, X) (pbx s (q.2.2 : Nat) 0 0)⟩)
      (fun q => q.2.2 ≤ s.size ∧ q.2.1.length ≤ q.2.2 ∧ (∀ r ∈ q.2.1, 0 ≤ r.1 ∧ r.1 ≤ r.2 ∧ r.2 ≤ 1114111) ∧ pRngs q.1 q.2.1 (rst s q.2.2) = T) (fun q => q.1) ?_ (n, [], (i + 1)) ⟨hj0, Nat.zero_le _, by simp, hT0⟩) rfl rfl
    rintro ⟨m, acc, j⟩ ⟨i1, i2, i3, i4⟩ ih
    simp only at i1 i2 i3 i4 ih ⊢
    cases m with
    | zero => rw [pRngs] at i4; subst i4; exact absurd rfl hne
    | succ m =>
    have hnj := next_s (X := X) τ s j i1 0 0 (e0 + 1)
    rw [pRngs] at i4
    by_cases hend : acc ≠ [] ∧ nx (rst s j) = 93
    · rw [if_pos hend] at i4
      have hacc : (acc.length : Int) ≠ 0 := by
        have := List.length_pos_iff.2 hend.1; omega
      obtain ⟨hjl, htj, hej⟩ := rst_asc i1 hend.2 (by decide) (by decide)
      rw [htj] at i4
      subst i4
      have hmg := merged_s acc (by omega) i3
      have hnl := norm_len acc
      have hnr := norm_rng i3
      rw [hend.2] at hnj
      rw [show clsF false (rst s i) (.ok acc (rst s (j + 1))) = .ok (rset (norm acc)) (rst s (j + 1)) from rfl, bk_ok hjl]
      repeat' (first | (refine k_op1 ?_; (first | refine o_sv rfl (by decide) ?_ | (refine k_load ?_; (refine o_loadu rfl (upd_get _ (e0, X) _) rfl rfl rfl rfl (by decide) ?_)) | (refine k_field ?_; (refine o_val (v_field rfl rfl) rfl rfl (by decide) ?_)) | (refine k_bin ?_; (refine o_val (v_add (wi64 (by omega) (by omega))) rfl rfl (by decide) ?_)) | (refine k_blt ?_; (refine o_val (v_lenrm rfl) rfl rfl (by decide) ?_)) | (refine k_call ?_; (first | refine o_effd hnj rfl (bk_cons (m := (e0 + 1, X)) (upd_get _ (e0, X) _) (bkT (by repeat (first | exact hT | refine HT.upd ?_ hX0 hX1)))) (by decide) ?_ | refine o_eff1 hmg rfl rfl (by decide) ?_)) | (refine k_store ?_; (first | refine o_storeu (raw' := pbx s ((j + 1 : Nat) : Int) 0 0) rfl (upd_get _ (e0, X) _) rfl rfl rfl rfl rfl rfl ?_ | refine o_store0 rfl rfl rfl rfl rfl rfl ?_)) | (refine k_build ?_; (refine o_build rfl rfl rfl rfl rfl rfl rfl (by decide) ?_)))) | (refine k_ops ?_; (first | refine o_go (by first | exact .inl rfl | exact .inr ⟨_, _, _, rfl, rfl, rfl⟩) ?_ | refine o_nil ?_ | refine o_no rfl rfl (by decide) ?_ | refine o_casep rfl rfl (fun _ => ?_) (fun _ => ?_))) | (refine k_run ?_; (first | refine r_seq ?_ | refine r_region ?_ | refine r_true rfl ?_ | refine r_false rfl ?_ | refine r_skip ?_ | refine r_block ?_ | refine r_exit rfl ?_)))
      all_goals try (exfalso; omega)
      all_goals ((repeat rw [upd_upd']); first | exact r_ret Tryd.func75 _ (res_cell_one rfl rfl rfl rfl rfl rfl rfl) ⟨rfl, rfl⟩ | exact r_ret Tryd.func75 _ (res_two rfl rfl rfl) ⟨rfl, rfl⟩ | exact r_ret Tryd.func75 _ (res_one rfl rfl) ⟨rfl, rfl⟩ | exact r_ret Tryd.func75 _ (res_three rfl rfl rfl rfl) ⟨rfl, rfl⟩)
    · rw [if_neg hend] at i4
      have hm := member_s hX0 hX1 τ s hs j i1 (e0 + 1)
      have hnd : acc.length ≠ 0 → nx (rst s j) ≠ 93 := fun h h2 => hend ⟨fun h3 => h (by rw [h3]; rfl), h2⟩
      rcases hp : pChr spC (rst s j) with ⟨a, r⟩ | ⟨a, e⟩ | _
      · obtain ⟨⟨ha0, ha1⟩, j1, hj1, hj1s, rfl⟩ := pChr_at i1 hp
        rw [hp, bk_ok hj1s] at hm
        have hn2 := next_s (X := X) τ s j1 hj1s 0 0 (e0 + 1)
        by_cases h45 : nx (rst s j1) = 45
        · obtain ⟨hjl, htj, hej⟩ := rst_asc hj1s h45 (by decide) (by decide)
          have hm2 := member_s hX0 hX1 τ s hs (j1 + 1) hjl (e0 + 1)
          rcases hp2 : pChr spC (rst s (j1 + 1)) with ⟨b, r⟩ | ⟨b, e⟩ | _
          · obtain ⟨⟨hb0, hb1⟩, j2, hj2, hj2s, rfl⟩ := pChr_at hjl hp2
            rw [hp2, bk_ok hj2s] at hm2
            by_cases hba : b < a
            · have hpr : pRng (rst s j) = .err (rst s j) 8 := by
                rw [pRng, hp]; simp only
                rw [if_pos h45, htj, hp2]; simp only
                rw [if_pos hba]
              rw [hpr] at i4
              subst i4
              rw [clsF, bk_err i1]
              have hf := fail_s (X := X) s (I .i64 (j2 : Nat)) (j : Nat) 8 (e0 + 1) (by decide)
              repeat' (first | (refine k_op1 ?_; (first | refine o_sv rfl (by decide) ?_ | (refine k_load ?_; (refine o_loadu rfl (upd_get _ (e0, X) _) rfl rfl rfl rfl (by decide) ?_)) | (refine k_field ?_; (refine o_val (v_field rfl rfl) rfl rfl (by decide) ?_)) | (refine k_bin ?_; (refine o_val (v_add (wi64 (by omega) (by omega))) rfl rfl (by decide) ?_)) | (refine k_blt ?_; (refine o_val (v_lenrm rfl) rfl rfl (by decide) ?_)) | (refine k_call ?_; (first | refine o_effu hf rfl (upd_get _ (e0, X) _) (by decide) ?_ | refine o_effut hm2 rfl (upd_get _ (e0, X) _) (bkT (by repeat (first | exact hT | refine HT.upd ?_ hX0 hX1))) (by decide) ?_ | refine o_effut hm rfl (upd_get _ (e0, X) _) (bkT (by repeat (first | exact hT | refine HT.upd ?_ hX0 hX1))) (by decide) ?_ | refine o_effd hn2 rfl (bk_cons (m := (e0 + 1, X)) (upd_get _ (e0, X) _) (bkT (by repeat (first | exact hT | refine HT.upd ?_ hX0 hX1)))) (by decide) ?_ | refine o_effd hnj rfl (bk_cons (m := (e0 + 1, X)) (upd_get _ (e0, X) _) (bkT (by repeat (first | exact hT | refine HT.upd ?_ hX0 hX1)))) (by decide) ?_)) | (refine k_store ?_; (first | refine o_storeu (raw' := pbx s ((j1 + 1 : Nat) : Int) 0 0) rfl (upd_get _ (e0, X) _) rfl rfl rfl rfl rfl rfl ?_ | refine o_store0 rfl rfl rfl rfl rfl rfl ?_)) | (refine k_build ?_; (refine o_build rfl rfl rfl rfl rfl rfl rfl (by decide) ?_)) | (refine k_lit ?_; (refine o_lit rfl rfl rfl rfl rfl rfl rfl rfl (by decide) ?_)))) | (refine k_ops ?_; (first | refine o_go (by first | exact .inl rfl | exact .inr ⟨_, _, _, rfl, rfl, rfl⟩) ?_ | refine o_nil ?_ | refine o_no rfl rfl (by decide) ?_ | refine o_casep rfl rfl (fun _ => ?_) (fun _ => ?_))) | (refine k_run ?_; (first | refine r_seq ?_ | refine r_region ?_ | refine r_true rfl ?_ | refine r_false rfl ?_ | refine r_skip ?_ | refine r_block ?_ | refine r_if rfl (fun _ => ?_) (fun _ => ?_) | refine r_ifn rfl (fun _ => ?_) (fun _ => ?_) | refine r_exit rfl ?_)))
              all_goals try (exfalso; omega)
              all_goals ((repeat rw [upd_upd']); refine r_weak wkP ?_; first | exact r_ret Tryd.func75 _ (res_cell_one rfl rfl rfl rfl rfl rfl rfl) ⟨rfl, rfl⟩ | exact r_ret Tryd.func75 _ (res_two rfl rfl rfl) ⟨rfl, rfl⟩ | exact r_ret Tryd.func75 _ (res_one rfl rfl) ⟨rfl, rfl⟩ | exact r_ret Tryd.func75 _ (res_three rfl rfl rfl rfl) ⟨rfl, rfl⟩)
            · have hpr : pRng (rst s j) = .ok (a, b) (rst s j2) := by
                rw [pRng, hp]; simp only
                rw [if_pos h45, htj, hp2]; simp only
                rw [if_neg hba]
              rw [hpr] at i4
              simp only at i4
              repeat' (first | (refine k_op1 ?_; (first | refine o_sv rfl (by decide) ?_ | (refine k_load ?_; (refine o_loadu rfl (upd_get _ (e0, X) _) rfl rfl rfl rfl (by decide) ?_)) | (refine k_field ?_; (refine o_val (v_field rfl rfl) rfl rfl (by decide) ?_)) | (refine k_bin ?_; (refine o_val (v_add (wi64 (by omega) (by omega))) rfl rfl (by decide) ?_)) | (refine k_blt ?_; (first | refine o_app1 (g := rgc) rfl rfl (a, b) rfl rfl rfl rfl rfl rfl rfl (by decide) (by omega) ?_ | refine o_val (v_lenrm rfl) rfl rfl (by decide) ?_)) | (refine k_call ?_; (first | refine o_effut hm2 rfl (upd_get _ (e0, X) _) (bkT (by repeat (first | exact hT | refine HT.upd ?_ hX0 hX1))) (by decide) ?_ | refine o_effut hm rfl (upd_get _ (e0, X) _) (bkT (by repeat (first | exact hT | refine HT.upd ?_ hX0 hX1))) (by decide) ?_ | refine o_effd hn2 rfl (bk_cons (m := (e0 + 1, X)) (upd_get _ (e0, X) _) (bkT (by repeat (first | exact hT | refine HT.upd ?_ hX0 hX1)))) (by decide) ?_ | refine o_effd hnj rfl (bk_cons (m := (e0 + 1, X)) (upd_get _ (e0, X) _) (bkT (by repeat (first | exact hT | refine HT.upd ?_ hX0 hX1)))) (by decide) ?_)) | (refine k_store ?_; (refine o_storeu (raw' := pbx s ((j1 + 1 : Nat) : Int) 0 0) rfl (upd_get _ (e0, X) _) rfl rfl rfl rfl rfl rfl ?_)) | (refine k_build ?_; (refine o_build rfl rfl rfl rfl rfl rfl rfl (by decide) ?_)) | (refine k_lit ?_; (refine o_lit rfl rfl rfl rfl rfl rfl rfl rfl (by decide) ?_)))) | (refine k_ops ?_; (first | refine o_go (by first | exact .inl rfl | exact .inr ⟨_, _, _, rfl, rfl, rfl⟩) ?_ | refine o_nil ?_ | refine o_no rfl rfl (by decide) ?_ | refine o_casep rfl rfl (fun _ => ?_) (fun _ => ?_))) | (refine k_run ?_; (first | refine r_seq ?_ | refine r_region ?_ | refine r_true rfl ?_ | refine r_false rfl ?_ | refine r_skip ?_ | refine r_block ?_ | refine r_inBlock ?_ | refine r_if rfl (fun _ => ?_) (fun _ => ?_) | refine r_ifn rfl (fun _ => ?_) (fun _ => ?_) | refine r_exit rfl ?_)))
              all_goals try (exfalso; omega)
              all_goals (refine r_ren 86 1000 rfl rfl ?_; (repeat rw [upd_upd']); exact r_less (ih (m, acc ++ [(a, b)], j2) ⟨hj2s, by simp only [List.length_append, List.length_singleton]; omega, fun r hr => by
                rw [List.mem_append, List.mem_singleton] at hr
                rcases hr with hr | rfl
                · exact i3 r hr
                · simp only; omega, i4⟩ (by simp only; omega)) rfl rfl)
          · rw [hp2] at hm2
            have hpr : pRng (rst s j) = .err b e := by
              rw [pRng, hp]; simp only
              rw [if_pos h45, htj, hp2]
            rw [hpr] at i4
            subst i4
            repeat' (first | (refine k_op1 ?_; (first | refine o_sv rfl (by decide) ?_ | (refine k_load ?_; (refine o_loadu rfl (upd_get _ (e0, X) _) rfl rfl rfl rfl (by decide) ?_)) | (refine k_field ?_; (refine o_val (v_field rfl rfl) rfl rfl (by decide) ?_)) | (refine k_bin ?_; (refine o_val (v_add (wi64 (by omega) (by omega))) rfl rfl (by decide) ?_)) | (refine k_blt ?_; (refine o_val (v_lenrm rfl) rfl rfl (by decide) ?_)) | (refine k_call ?_; (first | refine o_effut hm2 rfl (upd_get _ (e0, X) _) (bkT (by repeat (first | exact hT | refine HT.upd ?_ hX0 hX1))) (by decide) ?_ | refine o_effut hm rfl (upd_get _ (e0, X) _) (bkT (by repeat (first | exact hT | refine HT.upd ?_ hX0 hX1))) (by decide) ?_ | refine o_effd hn2 rfl (bk_cons (m := (e0 + 1, X)) (upd_get _ (e0, X) _) (bkT (by repeat (first | exact hT | refine HT.upd ?_ hX0 hX1)))) (by decide) ?_ | refine o_effd hnj rfl (bk_cons (m := (e0 + 1, X)) (upd_get _ (e0, X) _) (bkT (by repeat (first | exact hT | refine HT.upd ?_ hX0 hX1)))) (by decide) ?_)) | (refine k_store ?_; (first | refine o_storeu (raw' := pbx s ((j1 + 1 : Nat) : Int) 0 0) rfl (upd_get _ (e0, X) _) rfl rfl rfl rfl rfl rfl ?_ | refine o_store0 rfl rfl rfl rfl rfl rfl ?_)) | (refine k_build ?_; (refine o_build rfl rfl rfl rfl rfl rfl rfl (by decide) ?_)) | (refine k_lit ?_; (refine o_lit rfl rfl rfl rfl rfl rfl rfl rfl (by decide) ?_)))) | (refine k_ops ?_; (first | refine o_go (by first | exact .inl rfl | exact .inr ⟨_, _, _, rfl, rfl, rfl⟩) ?_ | refine o_nil ?_ | refine o_no rfl rfl (by decide) ?_ | refine o_casep rfl rfl (fun _ => ?_) (fun _ => ?_))) | (refine k_run ?_; (first | refine r_seq ?_ | refine r_region ?_ | refine r_true rfl ?_ | refine r_false rfl ?_ | refine r_skip ?_ | refine r_block ?_ | refine r_if rfl (fun _ => ?_) (fun _ => ?_) | refine r_ifn rfl (fun _ => ?_) (fun _ => ?_) | refine r_exit rfl ?_)))
            all_goals try (exfalso; omega)
            all_goals ((repeat rw [upd_upd']); first | exact r_ret Tryd.func75 _ (res_cell_one rfl rfl rfl rfl rfl rfl rfl) ⟨rfl, rfl⟩ | exact r_ret Tryd.func75 _ (res_two rfl rfl rfl) ⟨rfl, rfl⟩ | exact r_ret Tryd.func75 _ (res_one rfl rfl) ⟨rfl, rfl⟩ | exact r_ret Tryd.func75 _ (res_three rfl rfl rfl rfl) ⟨rfl, rfl⟩)
          · exact absurd hp2 pChr_out
        · have hpr : pRng (rst s j) = .ok (a, a) (rst s j1) := by
            rw [pRng, hp]; simp only
            rw [if_neg h45]
          rw [hpr] at i4
          simp only at i4
          repeat' (first | (refine k_op1 ?_; (first | refine o_sv rfl (by decide) ?_ | (refine k_load ?_; (refine o_loadu rfl (upd_get _ (e0, X) _) rfl rfl rfl rfl (by decide) ?_)) | (refine k_field ?_; (refine o_val (v_field rfl rfl) rfl rfl (by decide) ?_)) | (refine k_bin ?_; (refine o_val (v_add (wi64 (by omega) (by omega))) rfl rfl (by decide) ?_)) | (refine k_blt ?_; (first | refine o_app1 (g := rgc) rfl rfl (a, a) rfl rfl rfl rfl rfl rfl rfl (by decide) (by omega) ?_ | refine o_val (v_lenrm rfl) rfl rfl (by decide) ?_)) | (refine k_call ?_; (first | refine o_effut hm rfl (upd_get _ (e0, X) _) (bkT (by repeat (first | exact hT | refine HT.upd ?_ hX0 hX1))) (by decide) ?_ | refine o_effd hn2 rfl (bk_cons (m := (e0 + 1, X)) (upd_get _ (e0, X) _) (bkT (by repeat (first | exact hT | refine HT.upd ?_ hX0 hX1)))) (by decide) ?_ | refine o_effd hnj rfl (bk_cons (m := (e0 + 1, X)) (upd_get _ (e0, X) _) (bkT (by repeat (first | exact hT | refine HT.upd ?_ hX0 hX1)))) (by decide) ?_)) | (refine k_build ?_; (refine o_build rfl rfl rfl rfl rfl rfl rfl (by decide) ?_)) | (refine k_lit ?_; (refine o_lit rfl rfl rfl rfl rfl rfl rfl rfl (by decide) ?_)))) | (refine k_ops ?_; (first | refine o_go (by first | exact .inl rfl | exact .inr ⟨_, _, _, rfl, rfl, rfl⟩) ?_ | refine o_nil ?_ | refine o_no rfl rfl (by decide) ?_ | refine o_casep rfl rfl (fun _ => ?_) (fun _ => ?_))) | (refine k_run ?_; (first | refine r_seq ?_ | refine r_region ?_ | refine r_true rfl ?_ | refine r_false rfl ?_ | refine r_skip ?_ | refine r_block ?_ | refine r_inBlock ?_ | refine r_if rfl (fun _ => ?_) (fun _ => ?_) | refine r_ifn rfl (fun _ => ?_) (fun _ => ?_) | refine r_exit rfl ?_)))
          all_goals try (exfalso; omega)
          all_goals (refine r_ren 86 1000 rfl rfl ?_; (repeat rw [upd_upd']); exact r_less (ih (m, acc ++ [(a, a)], j1) ⟨hj1s, by simp only [List.length_append, List.length_singleton]; omega, fun r hr => by
            rw [List.mem_append, List.mem_singleton] at hr
            rcases hr with hr | rfl
            · exact i3 r hr
            · simp only; omega, i4⟩ (by simp only; omega)) rfl rfl)
      · rw [hp] at hm
        have hpr : pRng (rst s j) = .err a e := by rw [pRng, hp]
        rw [hpr] at i4
        subst i4
        repeat' (first | (refine k_op1 ?_; (first | refine o_sv rfl (by decide) ?_ | (refine k_load ?_; (refine o_loadu rfl (upd_get _ (e0, X) _) rfl rfl rfl rfl (by decide) ?_)) | (refine k_field ?_; (refine o_val (v_field rfl rfl) rfl rfl (by decide) ?_)) | (refine k_bin ?_; (refine o_val (v_add (wi64 (by omega) (by omega))) rfl rfl (by decide) ?_)) | (refine k_blt ?_; (refine o_val (v_lenrm rfl) rfl rfl (by decide) ?_)) | (refine k_call ?_; (first | refine o_effut hm rfl (upd_get _ (e0, X) _) (bkT (by repeat (first | exact hT | refine HT.upd ?_ hX0 hX1))) (by decide) ?_ | refine o_effd hnj rfl (bk_cons (m := (e0 + 1, X)) (upd_get _ (e0, X) _) (bkT (by repeat (first | exact hT | refine HT.upd ?_ hX0 hX1)))) (by decide) ?_)) | (refine k_store ?_; (refine o_store0 rfl rfl rfl rfl rfl rfl ?_)) | (refine k_build ?_; (refine o_build rfl rfl rfl rfl rfl rfl rfl (by decide) ?_)))) | (refine k_ops ?_; (first | refine o_go (by first | exact .inl rfl | exact .inr ⟨_, _, _, rfl, rfl, rfl⟩) ?_ | refine o_nil ?_ | refine o_no rfl rfl (by decide) ?_ | refine o_casep rfl rfl (fun _ => ?_) (fun _ => ?_))) | (refine k_run ?_; (first | refine r_seq ?_ | refine r_region ?_ | refine r_true rfl ?_ | refine r_false rfl ?_ | refine r_skip ?_ | refine r_block ?_ | refine r_ifn rfl (fun _ => ?_) (fun _ => ?_) | refine r_exit rfl ?_)))
        all_goals try (exfalso; omega)
        all_goals ((repeat rw [upd_upd']); first | exact r_ret Tryd.func75 _ (res_cell_one rfl rfl rfl rfl rfl rfl rfl) ⟨rfl, rfl⟩ | exact r_ret Tryd.func75 _ (res_two rfl rfl rfl) ⟨rfl, rfl⟩ | exact r_ret Tryd.func75 _ (res_one rfl rfl) ⟨rfl, rfl⟩ | exact r_ret Tryd.func75 _ (res_three rfl rfl rfl rfl) ⟨rfl, rfl⟩)
      · exact absurd hp pChr_out
end
end Go.Proofs.YtjmbjgecfpggdaaDoor
namespace Go.Proofs.YtjmbjgecfpggdaaDoor
open Go.Ab Go.Rx
set_option maxHeartbeats 20000000
set_option maxRecDepth 100000
set_option linter.unusedVariables false
set_option linter.unusedSimpArgs false
set_option linter.unusedSectionVars false
attribute [local irreducible] Run Ops Op1 Does Val Tr PureF Eff1 NF Rel EffV EffM
theorem one_s (a b : Int) : PureF Tryd.prog 74 [I .i32 a, I .i32 b] (.d (eX (Rx.one a b))) := by
  refine pure_of fun H => ?_
  refine spec_of Tryd.func74 (by kernel_rfl) rfl (by simp) ?_
  dsimp only [Tryd.f74]
  repeat' (first | (refine k_op1 ?_; (first | refine o_sv rfl (by decide) ?_ | (refine k_store ?_; (refine o_store0 rfl rfl rfl rfl rfl rfl ?_)) | (refine k_alloc ?_; (refine o_does (d_alloc rfl rfl (by decide)) ?_)) | (refine k_build ?_; (refine o_build rfl rfl rfl rfl rfl rfl rfl (by decide) ?_)) | (refine k_lit ?_; (refine o_lit rfl rfl rfl rfl rfl rfl rfl rfl (by decide) ?_)))) | (refine k_ops ?_; (first | refine o_go (by first | exact .inl rfl | exact .inr ⟨_, _, _, rfl, rfl, rfl⟩) ?_ | refine o_nil ?_)) | (refine k_run ?_; (first | refine r_seq ?_ | refine r_region ?_)))
  all_goals try (exfalso; omega)
  exact r_ret Tryd.func74 _ (res_cell rfl rfl rfl rfl rfl rfl) ⟨rfl, rfl⟩
/-- what comes with an atom's error -/
def aE (n : Nat) (l : List U) : Rx :=
  if nx l = 40 then (match pU n [] l.tail with | .ok e _ => e | _ => nil0)
  else if nx l = 46 then nil0 else if nx l = 91 then nil0
  else if nx l ≠ 92 ∧ spA.contains (nx l) = true then nil0 else Rx.one 0 0
def rsA (n : Nat) (l : List U) : Rd Rx → PV
  | .ok a _ => .tup [.d (eX a), B true]
  | .err _ _ => .tup [.d (eX (aE n l)), B false]
  | .out => .any
theorem one_mk (a b : Int) : eX (Rx.one a b) = .agg [Dint 1, Dint 0, Dint 0, rgs [(a, b)], .slice []] := rfl
theorem nil_mk : eX nil0 = .agg [Dint 0, Dint 0, Dint 0, rgs [], .slice []] := rfl
theorem eX_mk (op mn mx : Int) (rs : List Rg) (ks : List Rx) : eX (.mk op mn mx rs ks) = .agg (rx5 op mn mx rs ks) := by rw [eX, rxc_mk]
section
variable {X : Nat} (hX0 : X ≠ 700) (hX1 : X ≠ 701) (τ : Tab) (s : ByteArray) (hs : s.size ≤ 1000000)
def HU (X : Nat) (τ : Tab) (s : ByteArray) (N : Nat) : Prop := ∀ (i : Nat), i ≤ s.size → ∀ e0 : Nat, pU N [] (rst s i) ≠ .out →
  Eff1 Tryd.prog 31 [.ptr (e0, X) 0] (((e0, X), pbx s i 0 0) :: tabs τ (e0 + 1)) [((e0, X), bkOf s (pU N [] (rst s i)))] (rsOf eX (eX nil0) (pU N [] (rst s i)))
def HC (X : Nat) (τ : Tab) (s : ByteArray) (N : Nat) : Prop := ∀ (i : Nat), i ≤ s.size → ∀ e0 : Nat, pC N [] (rst s i) ≠ .out →
  Eff1 Tryd.prog 42 [.ptr (e0, X) 0] (((e0, X), pbx s i 0 0) :: tabs τ (e0 + 1)) [((e0, X), bkOf s (pC N [] (rst s i)))] (rsOf eX (eX nil0) (pC N [] (rst s i)))
def HR (X : Nat) (τ : Tab) (s : ByteArray) (N : Nat) : Prop := ∀ (i : Nat), i ≤ s.size → 0 ≤ nx (rst s i) → ∀ e0 : Nat, pR N (rst s i) ≠ .out →
  Eff1 Tryd.prog 54 [.ptr (e0, X) 0] (((e0, X), pbx s i 0 0) :: tabs τ (e0 + 1)) [((e0, X), bkOf s (pR N (rst s i)))] (rsOf eX (eX nil0) (pR N (rst s i)))
def HA (X : Nat) (τ : Tab) (s : ByteArray) (N : Nat) : Prop := ∀ (i : Nat), i ≤ s.size → 0 ≤ nx (rst s i) → ∀ e0 : Nat, pA (N + 1) (rst s i) ≠ .out →
  Eff1 Tryd.prog 64 [.ptr (e0, X) 0] (((e0, X), pbx s i 0 0) :: tabs τ (e0 + 1)) [((e0, X), bkOf s (pA (N + 1) (rst s i)))] (rsA N (rst s i) (pA (N + 1) (rst s i)))
include hX0 hX1 hs
theorem atom_s (N : Nat) (hU : HU X τ s N) : HA X τ s N := by
  intro i hi hnx e0 hne
  refine eff_of fun H hH => ?_
  have hX : H e0 X = some (pbx s i 0 0) := hH ((e0, X), pbx s i 0 0) (by simp)
  have hT : HT τ (e0 + 1) H := HT.of (bs := [((e0, X), pbx s i 0 0)]) hH
  refine spec_of Tryd.func64 (by kernel_rfl) rfl (by simp) ?_
  dsimp only [Tryd.f64]
  have hn := next_s (X := X) τ s i hi 0 0 (e0 + 1)
  rw [pA] at hne ⊢
  by_cases h40 : nx (rst s i) = 40
  · obtain ⟨hlt, ht, he⟩ := rst_asc hi h40 (by decide) (by decide)
    rw [if_pos h40, ht] at hne ⊢
    have hu := hU (i + 1) hlt (e0 + 1) (fun h => hne (by rw [h]))
    have haE : aE N (rst s i) = (match pU N [] (rst s (i + 1)) with | .ok e _ => e | _ => nil0) := by rw [aE, if_pos h40, ht]
    have hsf := (p_sfx N).1 [] (rst s (i + 1))
    rw [h40] at hn
    rcases hp : pU N [] (rst s (i + 1)) with ⟨e, r⟩ | ⟨a, b⟩ | _
    · rw [hp] at hu hsf haE
      obtain ⟨j, hj1, hj, rfl⟩ := rst_sfx s _ (i + 1) r (Nat.le_refl _) hlt hsf
      rw [bk_ok hj] at hu
      simp only at haE
      obtain ⟨op, mn, mx, rs, ks⟩ := e
      rw [rsOf, eX_mk] at hu
      have heat := eat_s hX0 hX1 τ s hs j hj 41 (by decide) (by decide) (e0 + 1)
      simp only
      by_cases h41 : nx (rst s j) = 41
      · obtain ⟨hjl, htj, hej⟩ := rst_asc hj h41 (by decide) (by decide)
        rw [if_pos h41, htj, bk_ok hjl, rsA, eX_mk]
        rw [if_pos h41, decide_eq_true h41] at heat
        repeat' (first | (refine k_op1 ?_; (first | refine o_sv rfl (by decide) ?_ | (refine k_load ?_; (refine o_loadu rfl hX rfl rfl rfl rfl (by decide) ?_)) | (refine k_field ?_; (refine o_val (v_field rfl rfl) rfl rfl (by decide) ?_)) | (refine k_bin ?_; (refine o_val (v_add (wi64 (by omega) (by omega))) rfl rfl (by decide) ?_)) | (refine k_call ?_; (first | refine o_effut hu rfl (upd_get _ (e0, X) _) (bkT (by repeat (first | exact hT | refine HT.upd ?_ hX0 hX1))) (by decide) ?_ | refine o_effd hn rfl (bk_cons (m := (e0 + 1, X)) hX (bkT (by repeat (first | exact hT | refine HT.upd ?_ hX0 hX1)))) (by decide) ?_)) | (refine k_store ?_; (first | refine o_storeu (raw' := pbx s ((i + 1 : Nat) : Int) 0 0) rfl hX rfl rfl rfl rfl rfl rfl ?_ | refine o_store0 rfl rfl rfl rfl rfl rfl ?_)) | (refine k_alloc ?_; (refine o_does (d_alloc rfl rfl (by decide)) ?_)))) | (refine k_ops ?_; (first | refine o_go (by first | exact .inl rfl | exact .inr ⟨_, _, _, rfl, rfl, rfl⟩) ?_ | refine o_nil ?_)) | (refine k_run ?_; (first | refine r_seq ?_ | refine r_region ?_ | refine r_true rfl ?_ | refine r_block ?_ | refine r_tr ?_)) | (refine k_tr ?_; (first | (refine kt_end ?_; refine t_end mix (by kernel_rfl) ?_) | refine t_sv rfl (by first | exact rfl | exact ⟨_, rfl, rfl, rfl⟩) (by decide) ?_ | (refine kt_load ?_; (refine t_val (v_loadp rfl rfl rfl rfl) (by first | exact rfl | exact ⟨_, rfl, rfl, rfl⟩) rfl rfl (by decide) ?_)) | (refine kt_call ?_; (refine t_effut heat (by first | exact rfl | exact ⟨_, rfl, rfl, rfl⟩) rfl (upd_get _ (e0, X) _) (bkT (by repeat (first | exact hT | refine HT.upd ?_ hX0 hX1))) (by decide) ?_)) | (refine kt_store ?_; (refine t_store0 (by first | exact rfl | exact ⟨_, rfl, rfl, rfl⟩) rfl rfl rfl rfl rfl rfl ?_)))))
        all_goals try (exfalso; omega)
        all_goals ((repeat rw [upd_upd']); first | exact r_ret Tryd.func64 _ (res_cell_one rfl rfl rfl rfl rfl rfl rfl) ⟨rfl, rfl⟩ | exact r_ret Tryd.func64 _ (res_two rfl rfl rfl) ⟨rfl, rfl⟩ | exact r_ret Tryd.func64 _ (res_one rfl rfl) ⟨rfl, rfl⟩ | exact r_ret Tryd.func64 _ (res_three rfl rfl rfl rfl) ⟨rfl, rfl⟩)
      · rw [if_neg h41, bk_err hj, rsA, haE, eX_mk]
        rw [if_neg h41, decide_eq_false h41] at heat
        repeat' (first | (refine k_op1 ?_; (first | refine o_sv rfl (by decide) ?_ | (refine k_load ?_; (refine o_loadu rfl hX rfl rfl rfl rfl (by decide) ?_)) | (refine k_field ?_; (refine o_val (v_field rfl rfl) rfl rfl (by decide) ?_)) | (refine k_bin ?_; (refine o_val (v_add (wi64 (by omega) (by omega))) rfl rfl (by decide) ?_)) | (refine k_call ?_; (first | refine o_effut hu rfl (upd_get _ (e0, X) _) (bkT (by repeat (first | exact hT | refine HT.upd ?_ hX0 hX1))) (by decide) ?_ | refine o_effd hn rfl (bk_cons (m := (e0 + 1, X)) hX (bkT (by repeat (first | exact hT | refine HT.upd ?_ hX0 hX1)))) (by decide) ?_)) | (refine k_store ?_; (first | refine o_storeu (raw' := pbx s ((i + 1 : Nat) : Int) 0 0) rfl hX rfl rfl rfl rfl rfl rfl ?_ | refine o_store0 rfl rfl rfl rfl rfl rfl ?_)) | (refine k_alloc ?_; (refine o_does (d_alloc rfl rfl (by decide)) ?_)))) | (refine k_ops ?_; (first | refine o_go (by first | exact .inl rfl | exact .inr ⟨_, _, _, rfl, rfl, rfl⟩) ?_ | refine o_nil ?_)) | (refine k_run ?_; (first | refine r_seq ?_ | refine r_region ?_ | refine r_true rfl ?_ | refine r_block ?_ | refine r_tr ?_)) | (refine k_tr ?_; (first | (refine kt_end ?_; refine t_end mix (by kernel_rfl) ?_) | refine t_sv rfl (by first | exact rfl | exact ⟨_, rfl, rfl, rfl⟩) (by decide) ?_ | (refine kt_load ?_; (refine t_val (v_loadp rfl rfl rfl rfl) (by first | exact rfl | exact ⟨_, rfl, rfl, rfl⟩) rfl rfl (by decide) ?_)) | (refine kt_call ?_; (refine t_effut heat (by first | exact rfl | exact ⟨_, rfl, rfl, rfl⟩) rfl (upd_get _ (e0, X) _) (bkT (by repeat (first | exact hT | refine HT.upd ?_ hX0 hX1))) (by decide) ?_)) | (refine kt_store ?_; (refine t_store0 (by first | exact rfl | exact ⟨_, rfl, rfl, rfl⟩) rfl rfl rfl rfl rfl rfl ?_)))))
        all_goals try (exfalso; omega)
        all_goals ((repeat rw [upd_upd']); first | exact r_ret Tryd.func64 _ (res_cell_one rfl rfl rfl rfl rfl rfl rfl) ⟨rfl, rfl⟩ | exact r_ret Tryd.func64 _ (res_two rfl rfl rfl) ⟨rfl, rfl⟩ | exact r_ret Tryd.func64 _ (res_one rfl rfl) ⟨rfl, rfl⟩ | exact r_ret Tryd.func64 _ (res_three rfl rfl rfl rfl) ⟨rfl, rfl⟩)
    · rw [hp] at hu haE
      simp only at haE
      rw [rsOf, nil_mk] at hu
      simp only
      rw [rsA, haE, nil_mk]
      repeat' (first | (refine k_op1 ?_; (first | refine o_sv rfl (by decide) ?_ | (refine k_load ?_; (refine o_loadu rfl hX rfl rfl rfl rfl (by decide) ?_)) | (refine k_field ?_; (refine o_val (v_field rfl rfl) rfl rfl (by decide) ?_)) | (refine k_bin ?_; (refine o_val (v_add (wi64 (by omega) (by omega))) rfl rfl (by decide) ?_)) | (refine k_call ?_; (first | refine o_effut hu rfl (upd_get _ (e0, X) _) (bkT (by repeat (first | exact hT | refine HT.upd ?_ hX0 hX1))) (by decide) ?_ | refine o_effd hn rfl (bk_cons (m := (e0 + 1, X)) hX (bkT (by repeat (first | exact hT | refine HT.upd ?_ hX0 hX1)))) (by decide) ?_)) | (refine k_store ?_; (first | refine o_storeu (raw' := pbx s ((i + 1 : Nat) : Int) 0 0) rfl hX rfl rfl rfl rfl rfl rfl ?_ | refine o_store0 rfl rfl rfl rfl rfl rfl ?_)) | (refine k_alloc ?_; (refine o_does (d_alloc rfl rfl (by decide)) ?_)))) | (refine k_ops ?_; (first | refine o_go (by first | exact .inl rfl | exact .inr ⟨_, _, _, rfl, rfl, rfl⟩) ?_ | refine o_nil ?_)) | (refine k_run ?_; (first | refine r_seq ?_ | refine r_region ?_ | refine r_true rfl ?_ | refine r_block ?_ | refine r_tr ?_)) | (refine k_tr ?_; (first | (refine kt_end ?_; refine t_end mix (by kernel_rfl) ?_) | refine t_pass rfl rfl (by decide) ?_ | refine t_sv rfl (by first | exact rfl | exact ⟨_, rfl, rfl, rfl⟩) (by decide) ?_ | (refine kt_load ?_; (refine t_val (v_loadp rfl rfl rfl rfl) (by first | exact rfl | exact ⟨_, rfl, rfl, rfl⟩) rfl rfl (by decide) ?_)) | (refine kt_store ?_; (refine t_store0 (by first | exact rfl | exact ⟨_, rfl, rfl, rfl⟩) rfl rfl rfl rfl rfl rfl ?_)))))
      all_goals try (exfalso; omega)
      all_goals ((repeat rw [upd_upd']); first | exact r_ret Tryd.func64 _ (res_cell_one rfl rfl rfl rfl rfl rfl rfl) ⟨rfl, rfl⟩ | exact r_ret Tryd.func64 _ (res_two rfl rfl rfl) ⟨rfl, rfl⟩ | exact r_ret Tryd.func64 _ (res_one rfl rfl) ⟨rfl, rfl⟩ | exact r_ret Tryd.func64 _ (res_three rfl rfl rfl rfl) ⟨rfl, rfl⟩)
    · rw [hp] at hne; exact absurd rfl hne
  rw [if_neg h40] at hne ⊢
  by_cases h46 : nx (rst s i) = 46
  · obtain ⟨hlt, ht, he⟩ := rst_asc hi h46 (by decide) (by decide)
    rw [if_pos h46, ht, bk_ok hlt]
    have ho := one_s 0 1114111
    rw [h46] at hn
    repeat' (first | (refine k_op1 ?_; (first | refine o_sv rfl (by decide) ?_ | (refine k_load ?_; (refine o_loadu rfl hX rfl rfl rfl rfl (by decide) ?_)) | (refine k_field ?_; (refine o_val (v_field rfl rfl) rfl rfl (by decide) ?_)) | (refine k_bin ?_; (refine o_val (v_add (wi64 (by omega) (by omega))) rfl rfl (by decide) ?_)) | (refine k_call ?_; (first | refine o_effd hn rfl (bk_cons (m := (e0 + 1, X)) hX (bkT (by repeat (first | exact hT | refine HT.upd ?_ hX0 hX1)))) (by decide) ?_ | refine o_fn ho rfl (by decide) ?_)) | (refine k_store ?_; (first | refine o_storeu (raw' := pbx s ((i + 1 : Nat) : Int) 0 0) rfl hX rfl rfl rfl rfl rfl rfl ?_ | refine o_store0 rfl rfl rfl rfl rfl rfl ?_)) | (refine k_alloc ?_; (refine o_does (d_alloc rfl rfl (by decide)) ?_)))) | (refine k_ops ?_; (first | refine o_go (by first | exact .inl rfl | exact .inr ⟨_, _, _, rfl, rfl, rfl⟩) ?_ | refine o_nil ?_)) | (refine k_run ?_; (first | refine r_seq ?_ | refine r_region ?_ | refine r_true rfl ?_ | refine r_false rfl ?_ | refine r_block ?_)))
    all_goals try (exfalso; omega)
    all_goals ((repeat rw [upd_upd']); first | exact r_ret Tryd.func64 _ (res_cell_one rfl rfl rfl rfl rfl rfl rfl) ⟨rfl, rfl⟩ | exact r_ret Tryd.func64 _ (res_two rfl rfl rfl) ⟨rfl, rfl⟩ | exact r_ret Tryd.func64 _ (res_one rfl rfl) ⟨rfl, rfl⟩ | exact r_ret Tryd.func64 _ (res_three rfl rfl rfl rfl) ⟨rfl, rfl⟩)
  rw [if_neg h46] at hne ⊢
  by_cases h91 : nx (rst s i) = 91
  · rw [if_pos h91] at hne ⊢
    have hcl := class_s hX0 hX1 τ s hs N i hi h91 hne (e0 + 1)
    have haE : aE N (rst s i) = nil0 := by rw [aE, if_neg h40, if_neg h46, if_pos h91]
    rw [h91] at hn
    rcases hp : pCls N (rst s i) with ⟨e, r⟩ | ⟨a, b⟩ | _
    · rw [hp] at hcl
      obtain ⟨op, mn, mx, rs, ks⟩ := e
      rw [rsOf, eX_mk] at hcl
      rw [rsA, eX_mk]
      repeat' (first | (refine k_op1 ?_; (first | refine o_sv rfl (by decide) ?_ | (refine k_call ?_; (first | refine o_effut hcl rfl hX (bkT (by repeat (first | exact hT | refine HT.upd ?_ hX0 hX1))) (by decide) ?_ | refine o_effd hn rfl (bk_cons (m := (e0 + 1, X)) hX (bkT (by repeat (first | exact hT | refine HT.upd ?_ hX0 hX1)))) (by decide) ?_)) | (refine k_store ?_; (refine o_store0 rfl rfl rfl rfl rfl rfl ?_)) | (refine k_alloc ?_; (refine o_does (d_alloc rfl rfl (by decide)) ?_)))) | (refine k_ops ?_; (first | refine o_go (by first | exact .inl rfl | exact .inr ⟨_, _, _, rfl, rfl, rfl⟩) ?_ | refine o_nil ?_)) | (refine k_run ?_; (first | refine r_seq ?_ | refine r_region ?_ | refine r_true rfl ?_ | refine r_false rfl ?_ | refine r_block ?_)))
      all_goals try (exfalso; omega)
      all_goals ((repeat rw [upd_upd']); first | exact r_ret Tryd.func64 _ (res_cell_one rfl rfl rfl rfl rfl rfl rfl) ⟨rfl, rfl⟩ | exact r_ret Tryd.func64 _ (res_two rfl rfl rfl) ⟨rfl, rfl⟩ | exact r_ret Tryd.func64 _ (res_one rfl rfl) ⟨rfl, rfl⟩ | exact r_ret Tryd.func64 _ (res_three rfl rfl rfl rfl) ⟨rfl, rfl⟩)
    · rw [hp] at hcl
      rw [rsOf, nil_mk] at hcl
      rw [rsA, haE, nil_mk]
      repeat' (first | (refine k_op1 ?_; (first | refine o_sv rfl (by decide) ?_ | (refine k_call ?_; (first | refine o_effut hcl rfl hX (bkT (by repeat (first | exact hT | refine HT.upd ?_ hX0 hX1))) (by decide) ?_ | refine o_effd hn rfl (bk_cons (m := (e0 + 1, X)) hX (bkT (by repeat (first | exact hT | refine HT.upd ?_ hX0 hX1)))) (by decide) ?_)) | (refine k_store ?_; (refine o_store0 rfl rfl rfl rfl rfl rfl ?_)) | (refine k_alloc ?_; (refine o_does (d_alloc rfl rfl (by decide)) ?_)))) | (refine k_ops ?_; (first | refine o_go (by first | exact .inl rfl | exact .inr ⟨_, _, _, rfl, rfl, rfl⟩) ?_ | refine o_nil ?_)) | (refine k_run ?_; (first | refine r_seq ?_ | refine r_region ?_ | refine r_true rfl ?_ | refine r_false rfl ?_ | refine r_block ?_)))
      all_goals try (exfalso; omega)
      all_goals ((repeat rw [upd_upd']); first | exact r_ret Tryd.func64 _ (res_cell_one rfl rfl rfl rfl rfl rfl rfl) ⟨rfl, rfl⟩ | exact r_ret Tryd.func64 _ (res_two rfl rfl rfl) ⟨rfl, rfl⟩ | exact r_ret Tryd.func64 _ (res_one rfl rfl) ⟨rfl, rfl⟩ | exact r_ret Tryd.func64 _ (res_three rfl rfl rfl rfl) ⟨rfl, rfl⟩)
    · exact absurd hp hne
  rw [if_neg h91] at hne ⊢
  have hr := nx_rng s i
  have hcr := containsRune_s sp_A (nx (rst s i)) hr.1 hr.2
  by_cases hsp : nx (rst s i) ≠ 92 ∧ spA.contains (nx (rst s i)) = true
  · have haE : aE N (rst s i) = nil0 := by rw [aE, if_neg h40, if_neg h46, if_neg h91, if_pos hsp]
    have hlt := nx_lt hi hnx
    have hp : pChr spA (rst s i) = .err (rst s i) 3 := by
      have e1 := rst_lt hlt
      have hx := rst_nx hlt
      have h1 := hsp.1
      have h2 := hsp.2
      rw [e1, pChr_cons]
      simp only
      rw [← hx, if_neg h1, if_pos h2]
    rw [hp]
    simp only
    rw [bk_err hi, rsA, haE, nil_mk]
    have hf := fail_s (X := X) s (I .i64 (i : Nat)) (i : Nat) 3 (e0 + 1) (by decide)
    rw [hsp.2] at hcr
    have h1 := hsp.1
    repeat' (first | (refine k_op1 ?_; (first | refine o_sv rfl (by decide) ?_ | (refine k_load ?_; (refine o_loadu rfl hX rfl rfl rfl rfl (by decide) ?_)) | (refine k_field ?_; (refine o_val (v_field rfl rfl) rfl rfl (by decide) ?_)) | (refine k_bin ?_; (refine o_val (v_add (wi64 (by omega) (by omega))) rfl rfl (by decide) ?_)) | (refine k_call ?_; (first | refine o_effu hf rfl hX (by decide) ?_ | refine o_effd hn rfl (bk_cons (m := (e0 + 1, X)) hX (bkT (by repeat (first | exact hT | refine HT.upd ?_ hX0 hX1)))) (by decide) ?_ | refine o_fn hcr rfl (by decide) ?_)) | (refine k_store ?_; (refine o_store0 rfl rfl rfl rfl rfl rfl ?_)) | (refine k_alloc ?_; (refine o_does (d_alloc rfl rfl (by decide)) ?_)) | (refine k_build ?_; (refine o_build rfl rfl rfl rfl rfl rfl rfl (by decide) ?_)))) | (refine k_ops ?_; (first | refine o_go (by first | exact .inl rfl | exact .inr ⟨_, _, _, rfl, rfl, rfl⟩) ?_ | refine o_nil ?_ | refine o_no rfl rfl (by decide) ?_ | refine o_casen rfl rfl (fun _ => ?_) (fun _ => ?_))) | (refine k_run ?_; (first | refine r_seq ?_ | refine r_region ?_ | refine r_true rfl ?_ | refine r_false rfl ?_ | refine r_skip ?_ | refine r_block ?_ | refine r_inBlock ?_ | refine r_if rfl (fun _ => ?_) (fun _ => ?_))))
    all_goals try (exfalso; omega)
    all_goals ((repeat rw [upd_upd']); refine r_weak wkP ?_; first | exact r_ret Tryd.func64 _ (res_cell_one rfl rfl rfl rfl rfl rfl rfl) ⟨rfl, rfl⟩ | exact r_ret Tryd.func64 _ (res_two rfl rfl rfl) ⟨rfl, rfl⟩ | exact r_ret Tryd.func64 _ (res_one rfl rfl) ⟨rfl, rfl⟩ | exact r_ret Tryd.func64 _ (res_three rfl rfl rfl rfl) ⟨rfl, rfl⟩)
  · have hok : nx (rst s i) = 92 ∨ spA.contains (nx (rst s i)) = false := by
      by_cases h : nx (rst s i) = 92
      · exact .inl h
      · right
        cases h2 : spA.contains (nx (rst s i)) with
        | false => rfl
        | true => exact absurd ⟨h, h2⟩ hsp
    have haE : aE N (rst s i) = Rx.one 0 0 := by rw [aE, if_neg h40, if_neg h46, if_neg h91, if_neg hsp]
    have hch := char_s hX0 hX1 τ s hs sp_A i hi hnx hok (e0 + 1)
    rcases hp : pChr spA (rst s i) with ⟨c, r⟩ | ⟨a, b⟩ | _
    · rw [hp] at hch
      have ho := one_s c c
      simp only
      rw [rsA, one_mk]
      rw [one_mk] at ho
      rcases hok with h92 | hcf
      · rw [h92] at hn
        repeat' (first | (refine k_op1 ?_; (first | refine o_sv rfl (by decide) ?_ | (refine k_call ?_; (first | refine o_effut hch rfl hX (bkT (by repeat (first | exact hT | refine HT.upd ?_ hX0 hX1))) (by decide) ?_ | refine o_effd hn rfl (bk_cons (m := (e0 + 1, X)) hX (bkT (by repeat (first | exact hT | refine HT.upd ?_ hX0 hX1)))) (by decide) ?_ | refine o_fn ho rfl (by decide) ?_)) | (refine k_store ?_; (refine o_store0 rfl rfl rfl rfl rfl rfl ?_)) | (refine k_alloc ?_; (refine o_does (d_alloc rfl rfl (by decide)) ?_)))) | (refine k_ops ?_; (first | refine o_go (by first | exact .inl rfl | exact .inr ⟨_, _, _, rfl, rfl, rfl⟩) ?_ | refine o_nil ?_ | refine o_no rfl rfl (by decide) ?_)) | (refine k_run ?_; (first | refine r_seq ?_ | refine r_region ?_ | refine r_false rfl ?_ | refine r_skip ?_ | refine r_block ?_ | refine r_inBlock ?_)))
        all_goals try (exfalso; omega)
        all_goals ((repeat rw [upd_upd']); first | exact r_ret Tryd.func64 _ (res_cell_one rfl rfl rfl rfl rfl rfl rfl) ⟨rfl, rfl⟩ | exact r_ret Tryd.func64 _ (res_two rfl rfl rfl) ⟨rfl, rfl⟩ | exact r_ret Tryd.func64 _ (res_one rfl rfl) ⟨rfl, rfl⟩ | exact r_ret Tryd.func64 _ (res_three rfl rfl rfl rfl) ⟨rfl, rfl⟩)
      · rw [hcf] at hcr
        repeat' (first | (refine k_op1 ?_; (first | refine o_sv rfl (by decide) ?_ | (refine k_load ?_; (refine o_loadu rfl hX rfl rfl rfl rfl (by decide) ?_)) | (refine k_field ?_; (refine o_val (v_field rfl rfl) rfl rfl (by decide) ?_)) | (refine k_bin ?_; (refine o_val (v_add (wi64 (by omega) (by omega))) rfl rfl (by decide) ?_)) | (refine k_call ?_; (first | refine o_effut hch rfl hX (bkT (by repeat (first | exact hT | refine HT.upd ?_ hX0 hX1))) (by decide) ?_ | refine o_effd hn rfl (bk_cons (m := (e0 + 1, X)) hX (bkT (by repeat (first | exact hT | refine HT.upd ?_ hX0 hX1)))) (by decide) ?_ | refine o_fn hcr rfl (by decide) ?_ | refine o_fn ho rfl (by decide) ?_)) | (refine k_store ?_; (refine o_store0 rfl rfl rfl rfl rfl rfl ?_)) | (refine k_alloc ?_; (refine o_does (d_alloc rfl rfl (by decide)) ?_)))) | (refine k_ops ?_; (first | refine o_go (by first | exact .inl rfl | exact .inr ⟨_, _, _, rfl, rfl, rfl⟩) ?_ | refine o_nil ?_ | refine o_no rfl rfl (by decide) ?_ | refine o_casen rfl rfl (fun _ => ?_) (fun _ => ?_))) | (refine k_run ?_; (first | refine r_seq ?_ | refine r_region ?_ | refine r_false rfl ?_ | refine r_skip ?_ | refine r_block ?_ | refine r_inBlock ?_ | refine r_if rfl (fun _ => ?_) (fun _ => ?_))))
        all_goals try (exfalso; omega)
        all_goals ((repeat rw [upd_upd']); first | exact r_ret Tryd.func64 _ (res_cell_one rfl rfl rfl rfl rfl rfl rfl) ⟨rfl, rfl⟩ | exact r_ret Tryd.func64 _ (res_two rfl rfl rfl) ⟨rfl, rfl⟩ | exact r_ret Tryd.func64 _ (res_one rfl rfl) ⟨rfl, rfl⟩ | exact r_ret Tryd.func64 _ (res_three rfl rfl rfl rfl) ⟨rfl, rfl⟩)
    · rw [hp] at hch
      have ho := one_s 0 0
      simp only
      rw [rsA, haE, one_mk]
      rw [one_mk] at ho
      rcases hok with h92 | hcf
      · rw [h92] at hn
        repeat' (first | (refine k_op1 ?_; (first | refine o_sv rfl (by decide) ?_ | (refine k_call ?_; (first | refine o_effut hch rfl hX (bkT (by repeat (first | exact hT | refine HT.upd ?_ hX0 hX1))) (by decide) ?_ | refine o_effd hn rfl (bk_cons (m := (e0 + 1, X)) hX (bkT (by repeat (first | exact hT | refine HT.upd ?_ hX0 hX1)))) (by decide) ?_ | refine o_fn ho rfl (by decide) ?_)) | (refine k_store ?_; (refine o_store0 rfl rfl rfl rfl rfl rfl ?_)) | (refine k_alloc ?_; (refine o_does (d_alloc rfl rfl (by decide)) ?_)))) | (refine k_ops ?_; (first | refine o_go (by first | exact .inl rfl | exact .inr ⟨_, _, _, rfl, rfl, rfl⟩) ?_ | refine o_nil ?_ | refine o_no rfl rfl (by decide) ?_)) | (refine k_run ?_; (first | refine r_seq ?_ | refine r_region ?_ | refine r_false rfl ?_ | refine r_skip ?_ | refine r_block ?_ | refine r_inBlock ?_)))
        all_goals try (exfalso; omega)
        all_goals ((repeat rw [upd_upd']); first | exact r_ret Tryd.func64 _ (res_cell_one rfl rfl rfl rfl rfl rfl rfl) ⟨rfl, rfl⟩ | exact r_ret Tryd.func64 _ (res_two rfl rfl rfl) ⟨rfl, rfl⟩ | exact r_ret Tryd.func64 _ (res_one rfl rfl) ⟨rfl, rfl⟩ | exact r_ret Tryd.func64 _ (res_three rfl rfl rfl rfl) ⟨rfl, rfl⟩)
      · rw [hcf] at hcr
        repeat' (first | (refine k_op1 ?_; (first | refine o_sv rfl (by decide) ?_ | (refine k_load ?_; (refine o_loadu rfl hX rfl rfl rfl rfl (by decide) ?_)) | (refine k_field ?_; (refine o_val (v_field rfl rfl) rfl rfl (by decide) ?_)) | (refine k_bin ?_; (refine o_val (v_add (wi64 (by omega) (by omega))) rfl rfl (by decide) ?_)) | (refine k_call ?_; (first | refine o_effut hch rfl hX (bkT (by repeat (first | exact hT | refine HT.upd ?_ hX0 hX1))) (by decide) ?_ | refine o_effd hn rfl (bk_cons (m := (e0 + 1, X)) hX (bkT (by repeat (first | exact hT | refine HT.upd ?_ hX0 hX1)))) (by decide) ?_ | refine o_fn hcr rfl (by decide) ?_ | refine o_fn ho rfl (by decide) ?_)) | (refine k_store ?_; (refine o_store0 rfl rfl rfl rfl rfl rfl ?_)) | (refine k_alloc ?_; (refine o_does (d_alloc rfl rfl (by decide)) ?_)))) | (refine k_ops ?_; (first | refine o_go (by first | exact .inl rfl | exact .inr ⟨_, _, _, rfl, rfl, rfl⟩) ?_ | refine o_nil ?_ | refine o_no rfl rfl (by decide) ?_ | refine o_casen rfl rfl (fun _ => ?_) (fun _ => ?_))) | (refine k_run ?_; (first | refine r_seq ?_ | refine r_region ?_ | refine r_false rfl ?_ | refine r_skip ?_ | refine r_block ?_ | refine r_inBlock ?_ | refine r_if rfl (fun _ => ?_) (fun _ => ?_))))
        all_goals try (exfalso; omega)
        all_goals ((repeat rw [upd_upd']); first | exact r_ret Tryd.func64 _ (res_cell_one rfl rfl rfl rfl rfl rfl rfl) ⟨rfl, rfl⟩ | exact r_ret Tryd.func64 _ (res_two rfl rfl rfl) ⟨rfl, rfl⟩ | exact r_ret Tryd.func64 _ (res_one rfl rfl) ⟨rfl, rfl⟩ | exact r_ret Tryd.func64 _ (res_three rfl rfl rfl rfl) ⟨rfl, rfl⟩)
    · exact absurd hp pChr_out
end
end Go.Proofs.YtjmbjgecfpggdaaDoor
namespace Go.Proofs.YtjmbjgecfpggdaaDoor
open Go.Ab Go.Rx
set_option maxHeartbeats 20000000
set_option maxRecDepth 100000
set_option linter.unusedVariables false
set_option linter.unusedSimpArgs false
set_option linter.unusedSectionVars false
attribute [local irreducible] Run Ops Op1 Does Val Tr PureF Eff1 NF Rel EffV EffM
theorem pEnd_ok {lo hi : Int} {l r : List U} {b : Int × Int} (h : pEnd lo hi l = .ok b r) : nx r = 125 := by
  rw [pEnd] at h
  split at h
  · simp only [Rd.ok.injEq] at h; rw [← h.2]; assumption
  · simp at h
theorem pBnd_ok {l r : List U} {b : Int × Int} (h : pBnd l = .ok b r) : nx r = 125 := by
  rw [pBnd] at h
  split at h
  · simp at h
  · simp at h
  · split at h
    · split at h
      · exact pEnd_ok h
      · split at h
        · simp at h
        · simp at h
        · exact pEnd_ok h
    · exact pEnd_ok h
section
variable {X : Nat} (hX0 : X ≠ 700) (hX1 : X ≠ 701) (τ : Tab) (s : ByteArray) (hs : s.size ≤ 1000000)
include hX0 hX1 hs
theorem repeat_s (N : Nat) (hA : HA X τ s N) : HR X τ s (N + 2) := by
  intro i hi hnx e0 hne
  refine eff_of fun H hH => ?_
  have hX : H e0 X = some (pbx s i 0 0) := hH ((e0, X), pbx s i 0 0) (by simp)
  have hT : HT τ (e0 + 1) H := HT.of (bs := [((e0, X), pbx s i 0 0)]) hH
  refine spec_of Tryd.func54 (by kernel_rfl) rfl (by simp) ?_
  dsimp only [Tryd.f54]
  rw [pR] at hne ⊢
  have ha := hA i hi hnx (e0 + 1) (fun h => hne (by rw [h]))
  have hsf := ((p_sfx (N + 1)).2.2.2.2 (rst s i)).1
  rcases hp : pA (N + 1) (rst s i) with ⟨e, r⟩ | ⟨a, b⟩ | _
  · rw [hp] at ha hsf hne
    obtain ⟨j0, hj1, hj0, rfl⟩ := rst_sfx s _ i r (Nat.le_refl _) hi hsf
    rw [bk_ok hj0] at ha
    simp only at hne ⊢
    obtain ⟨T, hT0⟩ : ∃ T, pQ (N + 1) e (rst s j0) = T := ⟨_, rfl⟩
    rw [hT0] at hne ⊢
    obtain ⟨op, mn, mx, rs, ks⟩ := e
    rw [rsA, eX_mk] at ha
    repeat' (first | (refine k_op1 ?_; (first | refine o_sv rfl (by decide) ?_ | (refine k_call ?_; (refine o_effut ha rfl hX (bkT (by repeat (first | exact hT | refine HT.upd ?_ hX0 hX1))) (by decide) ?_)) | (refine k_store ?_; (refine o_store0 rfl rfl rfl rfl rfl rfl ?_)) | (refine k_alloc ?_; (refine o_does (d_alloc rfl rfl (by decide)) ?_)))) | (refine k_ops ?_; (first | refine o_go (by first | exact .inl rfl | exact .inr ⟨_, _, _, rfl, rfl, rfl⟩) ?_ | refine o_nil ?_)) | (refine k_run ?_; (first | refine r_seq ?_ | refine r_region ?_ | refine r_block ?_)))
    all_goals try (exfalso; omega)
    refine r_loop ?_
    refine r_less (r_inv (fun q : Nat × Rx × D × Nat => ⟨54, [(0, .ptr (e0 + 1, X) 0), (2, .ptr (0, 2) 0), (4, .ptr (0, 4) 0), (5, B true)], [(4, .box [.d (Dint q.2.1.op), .d (Dint q.2.1.mn), .d (Dint q.2.1.mx), .d q.2.2.1, .d (.slice (q.2.1.ks.map rxc))]), (2, .box (zeroP [Value.int .i64 0, Value.int .i64 0, Value.int .i64 0, nilS, nilS]))], upd H (e0, X) (pbx s (q.2.2.2 : Nat) 0 0)⟩)
      (fun q => q.2.2.2 ≤ s.size ∧ pQ q.1 q.2.1 (rst s q.2.2.2) = T ∧ (q.2.2.1 = rgs q.2.1.rs ∨ (q.2.2.1 = .lit nilS ∧ q.2.1.rs = []))) (fun q => q.1) ?_ (N + 1, .mk op mn mx rs ks, rgs rs, j0) ⟨hj0, hT0, .inl rfl⟩) rfl rfl
    clear hT0 ha hp hsf
    rintro ⟨m, ⟨op, mn, mx, rs, ks⟩, R, j⟩ ⟨i1, i2, i3⟩ ih
    simp only [Rx.op, Rx.mn, Rx.mx, Rx.rs, Rx.ks] at i1 i2 i3 ih ⊢
    cases m with
    | zero => rw [pQ] at i2; exact absurd i2.symm hne
    | succ m =>
    have hn := next_s (X := X) τ s j i1 0 0 (e0 + 1)
    rw [pQ] at i2
    rcases i3 with rfl | ⟨rfl, rfl⟩
    · skip
      by_cases h42 : nx (rst s j) = 42
      · rw [if_pos h42] at i2
        obtain ⟨hjl, htj, hej⟩ := rst_asc i1 h42 (by decide) (by decide)
        rw [htj] at i2
        rw [h42] at hn
        have ih' := ih (m, rrep 0 (-1) (.mk op mn mx rs ks), .lit nilS, j + 1) ⟨hjl, i2, .inr ⟨rfl, rfl⟩⟩ (by simp only; omega)
        simp only [rrep, Rx.op, Rx.mn, Rx.mx, Rx.ks, List.map_cons, List.map_nil, rxc_mk] at ih'
        repeat' (first | (refine k_op1 ?_; (first | refine o_sv rfl (by decide) ?_ | (refine k_load ?_; (first | refine o_loadu rfl (upd_get _ (e0, X) _) rfl rfl rfl rfl (by decide) ?_ | refine o_val (v_loadp rfl rfl rfl rfl) rfl rfl (by decide) ?_)) | (refine k_field ?_; (refine o_val (v_field rfl rfl) rfl rfl (by decide) ?_)) | (refine k_bin ?_; (refine o_val (v_add (wi64 (by omega) (by omega))) rfl rfl (by decide) ?_)) | (refine k_call ?_; (refine o_effd hn rfl (bk_cons (m := (e0 + 1, X)) (upd_get _ (e0, X) _) (bkT (by repeat (first | exact hT | refine HT.upd ?_ hX0 hX1)))) (by decide) ?_)) | (refine k_store ?_; (first | refine o_storeu (raw' := pbx s ((j + 1 : Nat) : Int) 0 0) rfl (upd_get _ (e0, X) _) rfl rfl rfl rfl rfl rfl ?_ | refine o_store0 rfl rfl rfl rfl rfl rfl ?_)) | (refine k_build ?_; (refine o_build rfl rfl rfl rfl rfl rfl rfl (by decide) ?_)) | (refine k_lit ?_; (refine o_lit rfl rfl rfl rfl rfl rfl rfl rfl (by decide) ?_)))) | (refine k_ops ?_; (first | refine o_go (by first | exact .inl rfl | exact .inr ⟨_, _, _, rfl, rfl, rfl⟩) ?_ | refine o_nil ?_)) | (refine k_run ?_; (first | refine r_seq ?_ | refine r_region ?_ | refine r_true rfl ?_ | refine r_skip ?_ | refine r_block ?_ | refine r_inBlock ?_)))
        all_goals try (exfalso; omega)
        all_goals ((repeat rw [upd_upd']); exact r_less ih' rfl rfl)
      rw [if_neg h42] at i2
      by_cases h43 : nx (rst s j) = 43
      · rw [if_pos h43] at i2
        obtain ⟨hjl, htj, hej⟩ := rst_asc i1 h43 (by decide) (by decide)
        rw [htj] at i2
        rw [h43] at hn
        have ih' := ih (m, rrep 1 (-1) (.mk op mn mx rs ks), .lit nilS, j + 1) ⟨hjl, i2, .inr ⟨rfl, rfl⟩⟩ (by simp only; omega)
        simp only [rrep, Rx.op, Rx.mn, Rx.mx, Rx.ks, List.map_cons, List.map_nil, rxc_mk] at ih'
        repeat' (first | (refine k_op1 ?_; (first | refine o_sv rfl (by decide) ?_ | (refine k_load ?_; (first | refine o_loadu rfl (upd_get _ (e0, X) _) rfl rfl rfl rfl (by decide) ?_ | refine o_val (v_loadp rfl rfl rfl rfl) rfl rfl (by decide) ?_)) | (refine k_field ?_; (refine o_val (v_field rfl rfl) rfl rfl (by decide) ?_)) | (refine k_bin ?_; (refine o_val (v_add (wi64 (by omega) (by omega))) rfl rfl (by decide) ?_)) | (refine k_call ?_; (refine o_effd hn rfl (bk_cons (m := (e0 + 1, X)) (upd_get _ (e0, X) _) (bkT (by repeat (first | exact hT | refine HT.upd ?_ hX0 hX1)))) (by decide) ?_)) | (refine k_store ?_; (first | refine o_storeu (raw' := pbx s ((j + 1 : Nat) : Int) 0 0) rfl (upd_get _ (e0, X) _) rfl rfl rfl rfl rfl rfl ?_ | refine o_store0 rfl rfl rfl rfl rfl rfl ?_)) | (refine k_build ?_; (refine o_build rfl rfl rfl rfl rfl rfl rfl (by decide) ?_)) | (refine k_lit ?_; (refine o_lit rfl rfl rfl rfl rfl rfl rfl rfl (by decide) ?_)))) | (refine k_ops ?_; (first | refine o_go (by first | exact .inl rfl | exact .inr ⟨_, _, _, rfl, rfl, rfl⟩) ?_ | refine o_nil ?_)) | (refine k_run ?_; (first | refine r_seq ?_ | refine r_region ?_ | refine r_true rfl ?_ | refine r_false rfl ?_ | refine r_skip ?_ | refine r_block ?_ | refine r_inBlock ?_)))
        all_goals try (exfalso; omega)
        all_goals ((repeat rw [upd_upd']); exact r_less ih' rfl rfl)
      rw [if_neg h43] at i2
      by_cases h63 : nx (rst s j) = 63
      · rw [if_pos h63] at i2
        obtain ⟨hjl, htj, hej⟩ := rst_asc i1 h63 (by decide) (by decide)
        rw [htj] at i2
        rw [h63] at hn
        have ih' := ih (m, rrep 0 1 (.mk op mn mx rs ks), .lit nilS, j + 1) ⟨hjl, i2, .inr ⟨rfl, rfl⟩⟩ (by simp only; omega)
        simp only [rrep, Rx.op, Rx.mn, Rx.mx, Rx.ks, List.map_cons, List.map_nil, rxc_mk] at ih'
        repeat' (first | (refine k_op1 ?_; (first | refine o_sv rfl (by decide) ?_ | (refine k_load ?_; (first | refine o_loadu rfl (upd_get _ (e0, X) _) rfl rfl rfl rfl (by decide) ?_ | refine o_val (v_loadp rfl rfl rfl rfl) rfl rfl (by decide) ?_)) | (refine k_field ?_; (refine o_val (v_field rfl rfl) rfl rfl (by decide) ?_)) | (refine k_bin ?_; (refine o_val (v_add (wi64 (by omega) (by omega))) rfl rfl (by decide) ?_)) | (refine k_call ?_; (refine o_effd hn rfl (bk_cons (m := (e0 + 1, X)) (upd_get _ (e0, X) _) (bkT (by repeat (first | exact hT | refine HT.upd ?_ hX0 hX1)))) (by decide) ?_)) | (refine k_store ?_; (first | refine o_storeu (raw' := pbx s ((j + 1 : Nat) : Int) 0 0) rfl (upd_get _ (e0, X) _) rfl rfl rfl rfl rfl rfl ?_ | refine o_store0 rfl rfl rfl rfl rfl rfl ?_)) | (refine k_build ?_; (refine o_build rfl rfl rfl rfl rfl rfl rfl (by decide) ?_)) | (refine k_lit ?_; (refine o_lit rfl rfl rfl rfl rfl rfl rfl rfl (by decide) ?_)))) | (refine k_ops ?_; (first | refine o_go (by first | exact .inl rfl | exact .inr ⟨_, _, _, rfl, rfl, rfl⟩) ?_ | refine o_nil ?_)) | (refine k_run ?_; (first | refine r_seq ?_ | refine r_region ?_ | refine r_true rfl ?_ | refine r_false rfl ?_ | refine r_skip ?_ | refine r_block ?_ | refine r_inBlock ?_)))
        all_goals try (exfalso; omega)
        all_goals ((repeat rw [upd_upd']); exact r_less ih' rfl rfl)
      rw [if_neg h63] at i2
      by_cases h123 : nx (rst s j) = 123
      · rw [if_pos h123] at i2
        obtain ⟨hjl, htj, hej⟩ := rst_asc i1 h123 (by decide) (by decide)
        rw [htj] at i2
        rw [h123] at hn
        have hb := bounds_s hX0 hX1 τ s hs (j + 1) hjl (e0 + 1)
        have hbf := pBnd_sfx (rst s (j + 1))
        rcases hp : pBnd (rst s (j + 1)) with ⟨⟨lo, hi'⟩, r⟩ | ⟨a, b⟩ | _
        · rw [hp] at hb hbf i2
          obtain ⟨k, hk1, hk, rfl⟩ := rst_sfx s _ (j + 1) r (Nat.le_refl _) hjl hbf
          obtain ⟨hkl, htk, hek⟩ := rst_asc hk (pBnd_ok hp) (by decide) (by decide)
          simp only at i2
          rw [htk] at i2
          rw [bk_ok hk, rsB] at hb
          have ih' := ih (m, rrep lo hi' (.mk op mn mx rs ks), .lit nilS, k + 1) ⟨hkl, i2, .inr ⟨rfl, rfl⟩⟩ (by simp only; omega)
          simp only [rrep, Rx.op, Rx.mn, Rx.mx, Rx.ks, List.map_cons, List.map_nil, rxc_mk] at ih'
          repeat' (first | (refine k_op1 ?_; (first | refine o_sv rfl (by decide) ?_ | (refine k_load ?_; (first | refine o_loadu rfl (upd_get _ (e0, X) _) rfl rfl rfl rfl (by decide) ?_ | refine o_val (v_loadp rfl rfl rfl rfl) rfl rfl (by decide) ?_)) | (refine k_field ?_; (refine o_val (v_field rfl rfl) rfl rfl (by decide) ?_)) | (refine k_bin ?_; (refine o_val (v_add (wi64 (by omega) (by omega))) rfl rfl (by decide) ?_)) | (refine k_call ?_; (first | refine o_effut hb rfl (upd_get _ (e0, X) _) (bkT (by repeat (first | exact hT | refine HT.upd ?_ hX0 hX1))) (by decide) ?_ | refine o_effd hn rfl (bk_cons (m := (e0 + 1, X)) (upd_get _ (e0, X) _) (bkT (by repeat (first | exact hT | refine HT.upd ?_ hX0 hX1)))) (by decide) ?_)) | (refine k_store ?_; (first | refine o_storeu (raw' := pbx s ((k + 1 : Nat) : Int) 0 0) rfl (upd_get _ (e0, X) _) rfl rfl rfl rfl rfl rfl ?_ | refine o_storeu (raw' := pbx s ((j + 1 : Nat) : Int) 0 0) rfl (upd_get _ (e0, X) _) rfl rfl rfl rfl rfl rfl ?_ | refine o_store0 rfl rfl rfl rfl rfl rfl ?_)) | (refine k_build ?_; (refine o_build rfl rfl rfl rfl rfl rfl rfl (by decide) ?_)) | (refine k_lit ?_; (refine o_lit rfl rfl rfl rfl rfl rfl rfl rfl (by decide) ?_)))) | (refine k_ops ?_; (first | refine o_go (by first | exact .inl rfl | exact .inr ⟨_, _, _, rfl, rfl, rfl⟩) ?_ | refine o_nil ?_)) | (refine k_run ?_; (first | refine r_seq ?_ | refine r_region ?_ | refine r_true rfl ?_ | refine r_false rfl ?_ | refine r_skip ?_ | refine r_block ?_ | refine r_inBlock ?_)))
          all_goals try (exfalso; omega)
          all_goals ((repeat rw [upd_upd']); exact r_less ih' rfl rfl)
        · rw [hp] at hb i2
          simp only at i2
          rw [← i2, rsOf, nil_mk]
          rw [rsB] at hb
          repeat' (first | (refine k_op1 ?_; (first | refine o_sv rfl (by decide) ?_ | (refine k_load ?_; (refine o_loadu rfl (upd_get _ (e0, X) _) rfl rfl rfl rfl (by decide) ?_)) | (refine k_field ?_; (refine o_val (v_field rfl rfl) rfl rfl (by decide) ?_)) | (refine k_bin ?_; (refine o_val (v_add (wi64 (by omega) (by omega))) rfl rfl (by decide) ?_)) | (refine k_call ?_; (first | refine o_effut hb rfl (upd_get _ (e0, X) _) (bkT (by repeat (first | exact hT | refine HT.upd ?_ hX0 hX1))) (by decide) ?_ | refine o_effd hn rfl (bk_cons (m := (e0 + 1, X)) (upd_get _ (e0, X) _) (bkT (by repeat (first | exact hT | refine HT.upd ?_ hX0 hX1)))) (by decide) ?_)) | (refine k_store ?_; (first | refine o_storeu (raw' := pbx s ((j + 1 : Nat) : Int) 0 0) rfl (upd_get _ (e0, X) _) rfl rfl rfl rfl rfl rfl ?_ | refine o_store0 rfl rfl rfl rfl rfl rfl ?_)) | (refine k_build ?_; (refine o_build rfl rfl rfl rfl rfl rfl rfl (by decide) ?_)))) | (refine k_ops ?_; (first | refine o_go (by first | exact .inl rfl | exact .inr ⟨_, _, _, rfl, rfl, rfl⟩) ?_ | refine o_nil ?_)) | (refine k_run ?_; (first | refine r_seq ?_ | refine r_region ?_ | refine r_true rfl ?_ | refine r_false rfl ?_ | refine r_skip ?_ | refine r_block ?_)))
          all_goals try (exfalso; omega)
          all_goals ((repeat rw [upd_upd']); first | exact r_ret Tryd.func54 _ (res_cell_one rfl rfl rfl rfl rfl rfl rfl) ⟨rfl, rfl⟩ | exact r_ret Tryd.func54 _ (res_two rfl rfl rfl) ⟨rfl, rfl⟩ | exact r_ret Tryd.func54 _ (res_one rfl rfl) ⟨rfl, rfl⟩ | exact r_ret Tryd.func54 _ (res_three rfl rfl rfl rfl) ⟨rfl, rfl⟩)
        · exact absurd hp pBnd_no
      rw [if_neg h123] at i2
      rw [← i2, rsOf, eX_mk, bk_ok i1]
      repeat' (first | (refine k_op1 ?_; (first | refine o_sv rfl (by decide) ?_ | (refine k_load ?_; (first | refine o_loadu rfl (upd_get _ (e0, X) _) rfl rfl rfl rfl (by decide) ?_ | refine o_val (v_loadp rfl rfl rfl rfl) rfl rfl (by decide) ?_)) | (refine k_field ?_; (refine o_val (v_field rfl rfl) rfl rfl (by decide) ?_)) | (refine k_bin ?_; (refine o_val (v_add (wi64 (by omega) (by omega))) rfl rfl (by decide) ?_)) | (refine k_call ?_; (refine o_effd hn rfl (bk_cons (m := (e0 + 1, X)) (upd_get _ (e0, X) _) (bkT (by repeat (first | exact hT | refine HT.upd ?_ hX0 hX1)))) (by decide) ?_)) | (refine k_store ?_; (refine o_store0 rfl rfl rfl rfl rfl rfl ?_)))) | (refine k_ops ?_; (first | refine o_go (by first | exact .inl rfl | exact .inr ⟨_, _, _, rfl, rfl, rfl⟩) ?_ | refine o_nil ?_)) | (refine k_run ?_; (first | refine r_seq ?_ | refine r_region ?_ | refine r_true rfl ?_ | refine r_skip ?_ | refine r_block ?_ | refine r_inBlock ?_ | refine r_if rfl (fun _ => ?_) (fun _ => ?_))))
      all_goals try (exfalso; omega)
      all_goals ((repeat rw [upd_upd']); first | exact r_ret Tryd.func54 _ (res_cell_one rfl rfl rfl rfl rfl rfl rfl) ⟨rfl, rfl⟩ | exact r_ret Tryd.func54 _ (res_two rfl rfl rfl) ⟨rfl, rfl⟩ | exact r_ret Tryd.func54 _ (res_one rfl rfl) ⟨rfl, rfl⟩ | exact r_ret Tryd.func54 _ (res_three rfl rfl rfl rfl) ⟨rfl, rfl⟩)
    · skip
      by_cases h42 : nx (rst s j) = 42
      · rw [if_pos h42] at i2
        obtain ⟨hjl, htj, hej⟩ := rst_asc i1 h42 (by decide) (by decide)
        rw [htj] at i2
        rw [h42] at hn
        have ih' := ih (m, rrep 0 (-1) (.mk op mn mx [] ks), .lit nilS, j + 1) ⟨hjl, i2, .inr ⟨rfl, rfl⟩⟩ (by simp only; omega)
        simp only [rrep, Rx.op, Rx.mn, Rx.mx, Rx.ks, List.map_cons, List.map_nil, rxc_mk] at ih'
        repeat' (first | (refine k_op1 ?_; (first | refine o_sv rfl (by decide) ?_ | (refine k_load ?_; (first | refine o_loadu rfl (upd_get _ (e0, X) _) rfl rfl rfl rfl (by decide) ?_ | refine o_val (v_loadp rfl rfl rfl rfl) rfl rfl (by decide) ?_)) | (refine k_field ?_; (refine o_val (v_field rfl rfl) rfl rfl (by decide) ?_)) | (refine k_bin ?_; (refine o_val (v_add (wi64 (by omega) (by omega))) rfl rfl (by decide) ?_)) | (refine k_call ?_; (refine o_effd hn rfl (bk_cons (m := (e0 + 1, X)) (upd_get _ (e0, X) _) (bkT (by repeat (first | exact hT | refine HT.upd ?_ hX0 hX1)))) (by decide) ?_)) | (refine k_store ?_; (first | refine o_storeu (raw' := pbx s ((j + 1 : Nat) : Int) 0 0) rfl (upd_get _ (e0, X) _) rfl rfl rfl rfl rfl rfl ?_ | refine o_store0 rfl rfl rfl rfl rfl rfl ?_)) | (refine k_build ?_; (refine o_build rfl rfl rfl rfl rfl rfl rfl (by decide) ?_)) | (refine k_lit ?_; (refine o_lit rfl rfl rfl rfl rfl rfl rfl rfl (by decide) ?_)))) | (refine k_ops ?_; (first | refine o_go (by first | exact .inl rfl | exact .inr ⟨_, _, _, rfl, rfl, rfl⟩) ?_ | refine o_nil ?_)) | (refine k_run ?_; (first | refine r_seq ?_ | refine r_region ?_ | refine r_true rfl ?_ | refine r_skip ?_ | refine r_block ?_ | refine r_inBlock ?_)))
        all_goals try (exfalso; omega)
        all_goals ((repeat rw [upd_upd']); exact r_less ih' rfl rfl)
      rw [if_neg h42] at i2
      by_cases h43 : nx (rst s j) = 43
      · rw [if_pos h43] at i2
        obtain ⟨hjl, htj, hej⟩ := rst_asc i1 h43 (by decide) (by decide)
        rw [htj] at i2
        rw [h43] at hn
        have ih' := ih (m, rrep 1 (-1) (.mk op mn mx [] ks), .lit nilS, j + 1) ⟨hjl, i2, .inr ⟨rfl, rfl⟩⟩ (by simp only; omega)
        simp only [rrep, Rx.op, Rx.mn, Rx.mx, Rx.ks, List.map_cons, List.map_nil, rxc_mk] at ih'
        repeat' (first | (refine k_op1 ?_; (first | refine o_sv rfl (by decide) ?_ | (refine k_load ?_; (first | refine o_loadu rfl (upd_get _ (e0, X) _) rfl rfl rfl rfl (by decide) ?_ | refine o_val (v_loadp rfl rfl rfl rfl) rfl rfl (by decide) ?_)) | (refine k_field ?_; (refine o_val (v_field rfl rfl) rfl rfl (by decide) ?_)) | (refine k_bin ?_; (refine o_val (v_add (wi64 (by omega) (by omega))) rfl rfl (by decide) ?_)) | (refine k_call ?_; (refine o_effd hn rfl (bk_cons (m := (e0 + 1, X)) (upd_get _ (e0, X) _) (bkT (by repeat (first | exact hT | refine HT.upd ?_ hX0 hX1)))) (by decide) ?_)) | (refine k_store ?_; (first | refine o_storeu (raw' := pbx s ((j + 1 : Nat) : Int) 0 0) rfl (upd_get _ (e0, X) _) rfl rfl rfl rfl rfl rfl ?_ | refine o_store0 rfl rfl rfl rfl rfl rfl ?_)) | (refine k_build ?_; (refine o_build rfl rfl rfl rfl rfl rfl rfl (by decide) ?_)) | (refine k_lit ?_; (refine o_lit rfl rfl rfl rfl rfl rfl rfl rfl (by decide) ?_)))) | (refine k_ops ?_; (first | refine o_go (by first | exact .inl rfl | exact .inr ⟨_, _, _, rfl, rfl, rfl⟩) ?_ | refine o_nil ?_)) | (refine k_run ?_; (first | refine r_seq ?_ | refine r_region ?_ | refine r_true rfl ?_ | refine r_false rfl ?_ | refine r_skip ?_ | refine r_block ?_ | refine r_inBlock ?_)))
        all_goals try (exfalso; omega)
        all_goals ((repeat rw [upd_upd']); exact r_less ih' rfl rfl)
      rw [if_neg h43] at i2
      by_cases h63 : nx (rst s j) = 63
      · rw [if_pos h63] at i2
        obtain ⟨hjl, htj, hej⟩ := rst_asc i1 h63 (by decide) (by decide)
        rw [htj] at i2
        rw [h63] at hn
        have ih' := ih (m, rrep 0 1 (.mk op mn mx [] ks), .lit nilS, j + 1) ⟨hjl, i2, .inr ⟨rfl, rfl⟩⟩ (by simp only; omega)
        simp only [rrep, Rx.op, Rx.mn, Rx.mx, Rx.ks, List.map_cons, List.map_nil, rxc_mk] at ih'
        repeat' (first | (refine k_op1 ?_; (first | refine o_sv rfl (by decide) ?_ | (refine k_load ?_; (first | refine o_loadu rfl (upd_get _ (e0, X) _) rfl rfl rfl rfl (by decide) ?_ | refine o_val (v_loadp rfl rfl rfl rfl) rfl rfl (by decide) ?_)) | (refine k_field ?_; (refine o_val (v_field rfl rfl) rfl rfl (by decide) ?_)) | (refine k_bin ?_; (refine o_val (v_add (wi64 (by omega) (by omega))) rfl rfl (by decide) ?_)) | (refine k_call ?_; (refine o_effd hn rfl (bk_cons (m := (e0 + 1, X)) (upd_get _ (e0, X) _) (bkT (by repeat (first | exact hT | refine HT.upd ?_ hX0 hX1)))) (by decide) ?_)) | (refine k_store ?_; (first | refine o_storeu (raw' := pbx s ((j + 1 : Nat) : Int) 0 0) rfl (upd_get _ (e0, X) _) rfl rfl rfl rfl rfl rfl ?_ | refine o_store0 rfl rfl rfl rfl rfl rfl ?_)) | (refine k_build ?_; (refine o_build rfl rfl rfl rfl rfl rfl rfl (by decide) ?_)) | (refine k_lit ?_; (refine o_lit rfl rfl rfl rfl rfl rfl rfl rfl (by decide) ?_)))) | (refine k_ops ?_; (first | refine o_go (by first | exact .inl rfl | exact .inr ⟨_, _, _, rfl, rfl, rfl⟩) ?_ | refine o_nil ?_)) | (refine k_run ?_; (first | refine r_seq ?_ | refine r_region ?_ | refine r_true rfl ?_ | refine r_false rfl ?_ | refine r_skip ?_ | refine r_block ?_ | refine r_inBlock ?_)))
        all_goals try (exfalso; omega)
        all_goals ((repeat rw [upd_upd']); exact r_less ih' rfl rfl)
      rw [if_neg h63] at i2
      by_cases h123 : nx (rst s j) = 123
      · rw [if_pos h123] at i2
        obtain ⟨hjl, htj, hej⟩ := rst_asc i1 h123 (by decide) (by decide)
        rw [htj] at i2
        rw [h123] at hn
        have hb := bounds_s hX0 hX1 τ s hs (j + 1) hjl (e0 + 1)
        have hbf := pBnd_sfx (rst s (j + 1))
        rcases hp : pBnd (rst s (j + 1)) with ⟨⟨lo, hi'⟩, r⟩ | ⟨a, b⟩ | _
        · rw [hp] at hb hbf i2
          obtain ⟨k, hk1, hk, rfl⟩ := rst_sfx s _ (j + 1) r (Nat.le_refl _) hjl hbf
          obtain ⟨hkl, htk, hek⟩ := rst_asc hk (pBnd_ok hp) (by decide) (by decide)
          simp only at i2
          rw [htk] at i2
          rw [bk_ok hk, rsB] at hb
          have ih' := ih (m, rrep lo hi' (.mk op mn mx [] ks), .lit nilS, k + 1) ⟨hkl, i2, .inr ⟨rfl, rfl⟩⟩ (by simp only; omega)
          simp only [rrep, Rx.op, Rx.mn, Rx.mx, Rx.ks, List.map_cons, List.map_nil, rxc_mk] at ih'
          repeat' (first | (refine k_op1 ?_; (first | refine o_sv rfl (by decide) ?_ | (refine k_load ?_; (first | refine o_loadu rfl (upd_get _ (e0, X) _) rfl rfl rfl rfl (by decide) ?_ | refine o_val (v_loadp rfl rfl rfl rfl) rfl rfl (by decide) ?_)) | (refine k_field ?_; (refine o_val (v_field rfl rfl) rfl rfl (by decide) ?_)) | (refine k_bin ?_; (refine o_val (v_add (wi64 (by omega) (by omega))) rfl rfl (by decide) ?_)) | (refine k_call ?_; (first | refine o_effut hb rfl (upd_get _ (e0, X) _) (bkT (by repeat (first | exact hT | refine HT.upd ?_ hX0 hX1))) (by decide) ?_ | refine o_effd hn rfl (bk_cons (m := (e0 + 1, X)) (upd_get _ (e0, X) _) (bkT (by repeat (first | exact hT | refine HT.upd ?_ hX0 hX1)))) (by decide) ?_)) | (refine k_store ?_; (first | refine o_storeu (raw' := pbx s ((k + 1 : Nat) : Int) 0 0) rfl (upd_get _ (e0, X) _) rfl rfl rfl rfl rfl rfl ?_ | refine o_storeu (raw' := pbx s ((j + 1 : Nat) : Int) 0 0) rfl (upd_get _ (e0, X) _) rfl rfl rfl rfl rfl rfl ?_ | refine o_store0 rfl rfl rfl rfl rfl rfl ?_)) | (refine k_build ?_; (refine o_build rfl rfl rfl rfl rfl rfl rfl (by decide) ?_)) | (refine k_lit ?_; (refine o_lit rfl rfl rfl rfl rfl rfl rfl rfl (by decide) ?_)))) | (refine k_ops ?_; (first | refine o_go (by first | exact .inl rfl | exact .inr ⟨_, _, _, rfl, rfl, rfl⟩) ?_ | refine o_nil ?_)) | (refine k_run ?_; (first | refine r_seq ?_ | refine r_region ?_ | refine r_true rfl ?_ | refine r_false rfl ?_ | refine r_skip ?_ | refine r_block ?_ | refine r_inBlock ?_)))
          all_goals try (exfalso; omega)
          all_goals ((repeat rw [upd_upd']); exact r_less ih' rfl rfl)
        · rw [hp] at hb i2
          simp only at i2
          rw [← i2, rsOf, nil_mk]
          rw [rsB] at hb
          repeat' (first | (refine k_op1 ?_; (first | refine o_sv rfl (by decide) ?_ | (refine k_load ?_; (refine o_loadu rfl (upd_get _ (e0, X) _) rfl rfl rfl rfl (by decide) ?_)) | (refine k_field ?_; (refine o_val (v_field rfl rfl) rfl rfl (by decide) ?_)) | (refine k_bin ?_; (refine o_val (v_add (wi64 (by omega) (by omega))) rfl rfl (by decide) ?_)) | (refine k_call ?_; (first | refine o_effut hb rfl (upd_get _ (e0, X) _) (bkT (by repeat (first | exact hT | refine HT.upd ?_ hX0 hX1))) (by decide) ?_ | refine o_effd hn rfl (bk_cons (m := (e0 + 1, X)) (upd_get _ (e0, X) _) (bkT (by repeat (first | exact hT | refine HT.upd ?_ hX0 hX1)))) (by decide) ?_)) | (refine k_store ?_; (first | refine o_storeu (raw' := pbx s ((j + 1 : Nat) : Int) 0 0) rfl (upd_get _ (e0, X) _) rfl rfl rfl rfl rfl rfl ?_ | refine o_store0 rfl rfl rfl rfl rfl rfl ?_)) | (refine k_build ?_; (refine o_build rfl rfl rfl rfl rfl rfl rfl (by decide) ?_)))) | (refine k_ops ?_; (first | refine o_go (by first | exact .inl rfl | exact .inr ⟨_, _, _, rfl, rfl, rfl⟩) ?_ | refine o_nil ?_)) | (refine k_run ?_; (first | refine r_seq ?_ | refine r_region ?_ | refine r_true rfl ?_ | refine r_false rfl ?_ | refine r_skip ?_ | refine r_block ?_)))
          all_goals try (exfalso; omega)
          all_goals ((repeat rw [upd_upd']); first | exact r_ret Tryd.func54 _ (res_cell_one rfl rfl rfl rfl rfl rfl rfl) ⟨rfl, rfl⟩ | exact r_ret Tryd.func54 _ (res_two rfl rfl rfl) ⟨rfl, rfl⟩ | exact r_ret Tryd.func54 _ (res_one rfl rfl) ⟨rfl, rfl⟩ | exact r_ret Tryd.func54 _ (res_three rfl rfl rfl rfl) ⟨rfl, rfl⟩)
        · exact absurd hp pBnd_no
      rw [if_neg h123] at i2
      rw [← i2, rsOf, eX_mk, bk_ok i1]
      repeat' (first | (refine k_op1 ?_; (first | refine o_sv rfl (by decide) ?_ | (refine k_load ?_; (first | refine o_loadu rfl (upd_get _ (e0, X) _) rfl rfl rfl rfl (by decide) ?_ | refine o_val (v_loadp rfl rfl rfl rfl) rfl rfl (by decide) ?_)) | (refine k_field ?_; (refine o_val (v_field rfl rfl) rfl rfl (by decide) ?_)) | (refine k_bin ?_; (refine o_val (v_add (wi64 (by omega) (by omega))) rfl rfl (by decide) ?_)) | (refine k_call ?_; (refine o_effd hn rfl (bk_cons (m := (e0 + 1, X)) (upd_get _ (e0, X) _) (bkT (by repeat (first | exact hT | refine HT.upd ?_ hX0 hX1)))) (by decide) ?_)) | (refine k_store ?_; (refine o_store0 rfl rfl rfl rfl rfl rfl ?_)))) | (refine k_ops ?_; (first | refine o_go (by first | exact .inl rfl | exact .inr ⟨_, _, _, rfl, rfl, rfl⟩) ?_ | refine o_nil ?_)) | (refine k_run ?_; (first | refine r_seq ?_ | refine r_region ?_ | refine r_true rfl ?_ | refine r_skip ?_ | refine r_block ?_ | refine r_inBlock ?_ | refine r_if rfl (fun _ => ?_) (fun _ => ?_))))
      all_goals try (exfalso; omega)
      all_goals ((repeat rw [upd_upd']); first | exact r_ret Tryd.func54 _ (res_cell_one rfl rfl rfl rfl rfl rfl rfl) ⟨rfl, rfl⟩ | exact r_ret Tryd.func54 _ (res_two rfl rfl rfl) ⟨rfl, rfl⟩ | exact r_ret Tryd.func54 _ (res_one rfl rfl) ⟨rfl, rfl⟩ | exact r_ret Tryd.func54 _ (res_three rfl rfl rfl rfl) ⟨rfl, rfl⟩)
  · rw [hp] at ha
    simp only
    rw [rsA] at ha
    generalize aE N (rst s i) = E at ha
    obtain ⟨op, mn, mx, rs, ks⟩ := E
    rw [eX_mk] at ha
    rw [rsOf, nil_mk]
    repeat' (first | (refine k_op1 ?_; (first | refine o_sv rfl (by decide) ?_ | (refine k_call ?_; (refine o_effut ha rfl hX (bkT (by repeat (first | exact hT | refine HT.upd ?_ hX0 hX1))) (by decide) ?_)) | (refine k_store ?_; (refine o_store0 rfl rfl rfl rfl rfl rfl ?_)) | (refine k_alloc ?_; (refine o_does (d_alloc rfl rfl (by decide)) ?_)))) | (refine k_ops ?_; (first | refine o_go (by first | exact .inl rfl | exact .inr ⟨_, _, _, rfl, rfl, rfl⟩) ?_ | refine o_nil ?_)) | (refine k_run ?_; (first | refine r_seq ?_ | refine r_region ?_ | refine r_block ?_)))
    all_goals try (exfalso; omega)
    refine r_loop ?_
    refine r_inLoop ?_
    repeat' (first | (refine k_op1 ?_; (first | refine o_sv rfl (by decide) ?_ | (refine k_store ?_; (refine o_store0 rfl rfl rfl rfl rfl rfl ?_)) | (refine k_build ?_; (refine o_build rfl rfl rfl rfl rfl rfl rfl (by decide) ?_)))) | (refine k_ops ?_; (first | refine o_go (by first | exact .inl rfl | exact .inr ⟨_, _, _, rfl, rfl, rfl⟩) ?_ | refine o_nil ?_)) | (refine k_run ?_; (first | refine r_seq ?_ | refine r_region ?_ | refine r_false rfl ?_ | refine r_exit rfl ?_)))
    all_goals try (exfalso; omega)
    all_goals ((repeat rw [upd_upd']); first | exact r_ret Tryd.func54 _ (res_cell_one rfl rfl rfl rfl rfl rfl rfl) ⟨rfl, rfl⟩ | exact r_ret Tryd.func54 _ (res_two rfl rfl rfl) ⟨rfl, rfl⟩ | exact r_ret Tryd.func54 _ (res_one rfl rfl) ⟨rfl, rfl⟩ | exact r_ret Tryd.func54 _ (res_three rfl rfl rfl rfl) ⟨rfl, rfl⟩)
  · rw [hp] at hne; exact absurd rfl hne
end
end Go.Proofs.YtjmbjgecfpggdaaDoor
namespace Go.Proofs.YtjmbjgecfpggdaaDoor
open Go.Ab Go.Rx
set_option maxHeartbeats 20000000
set_option maxRecDepth 100000
set_option linter.unusedVariables false
set_option linter.unusedSimpArgs false
set_option linter.unusedSectionVars false
attribute [local irreducible] Run Ops Op1 Does Val Tr PureF Eff1 NF Rel EffV EffM
theorem fin_mk {o : Int} {l : List Rx} (h : l.length ≠ 1) : fin o l = .mk o 0 0 [] l := by
  match l, h with
  | [], _ => rfl
  | [e], h => simp at h
  | a :: b :: l, _ => rfl
section
variable {X : Nat} (hX0 : X ≠ 700) (hX1 : X ≠ 701) (τ : Tab) (s : ByteArray) (hs : s.size ≤ 1000000)
include hX0 hX1 hs
theorem concat_s (N : Nat) (hR : ∀ m, m < N → HR X τ s m) : HC X τ s N := by
  intro i hi e0 hne
  refine eff_of fun H hH => ?_
  have hX : H e0 X = some (pbx s i 0 0) := hH ((e0, X), pbx s i 0 0) (by simp)
  have hT : HT τ (e0 + 1) H := HT.of (bs := [((e0, X), pbx s i 0 0)]) hH
  refine spec_of Tryd.func42 (by kernel_rfl) rfl (by simp) ?_
  dsimp only [Tryd.f42]
  have hn := next_s (X := X) τ s i hi 0 0 (e0 + 1)
  have hil := rst_len s _ i (Nat.le_refl _)
  obtain ⟨T, hT0⟩ : ∃ T, pC N [] (rst s i) = T := ⟨_, rfl⟩
  rw [hT0] at hne ⊢
  repeat' (first | (refine k_op1 ?_; (first | refine o_sv rfl (by decide) ?_ | (refine k_call ?_; (refine o_effd hn rfl (bk_cons (m := (e0 + 1, X)) hX (bkT (by repeat (first | exact hT | refine HT.upd ?_ hX0 hX1)))) (by decide) ?_)) | (refine k_alloc ?_; (refine o_does (d_alloc rfl rfl (by decide)) ?_)))) | (refine k_ops ?_; (first | refine o_go (by first | exact .inl rfl | exact .inr ⟨_, _, _, rfl, rfl, rfl⟩) ?_ | refine o_nil ?_)) | (refine k_run ?_; (first | refine r_seq ?_ | refine r_region ?_ | refine r_block ?_)))
  all_goals try (exfalso; omega)
  refine r_slot_row 4 1000 25 5 rfl rfl rfl ?_
  refine r_loop ?_
  refine r_upid (m := (e0, X)) hX ?_
  refine r_less (r_inv (fun q : Nat × List Rx × Nat => ⟨49, [(0, .ptr (e0 + 1, X) 0), (2, .ptr (0, 2) 0), (4, .ref (0, 1000)), (5, I .i32 (nx (rst s q.2.2)))], [(1000, .row 25 5 (q.2.1.map rxc)), (2, .box (zeroP [Value.int .i64 0, Value.int .i64 0, Value.int .i64 0, nilS, nilS]))], upd H (e0, X) (pbx s (q.2.2 : Nat) 0 0)⟩)
    (fun q => q.2.2 ≤ s.size ∧ q.1 ≤ N ∧ szL q.2.1 + 2 * (rst s q.2.2).length ≤ 2 * (rst s i).length ∧ pC q.1 q.2.1 (rst s q.2.2) = T) (fun q => q.1) ?_ (N, [], i) ⟨hi, Nat.le_refl _, by simp [szL], hT0⟩) rfl rfl
  clear hT0 hn
  rintro ⟨m, acc, j⟩ ⟨i1, i2, i3, i4⟩ ih
  simp only at i1 i2 i3 i4 ih ⊢
  cases m with
  | zero => rw [pC] at i4; exact absurd i4.symm hne
  | succ m =>
  rw [pC] at i4
  have hal := len_szL acc
  have hrg := nx_rng s j
  by_cases hend : nx (rst s j) < 0 ∨ nx (rst s j) = 124 ∨ nx (rst s j) = 41
  · rw [if_pos hend] at i4
    rw [← i4, bk_ok i1]
    by_cases h1 : acc.length = 1
    · obtain ⟨x, rfl⟩ := List.length_eq_one_iff.1 h1
      obtain ⟨op, mn, mx, rs, ks⟩ := x
      rw [show fin 2 [Rx.mk op mn mx rs ks] = Rx.mk op mn mx rs ks from rfl, rsOf, eX_mk, List.map_cons, List.map_nil, rxc_mk]
      clear ih
      refine r_freeze 1000 rfl ?_
      repeat' (first | (refine k_op1 ?_; (first | refine o_sv rfl (by decide) ?_ | (refine k_load ?_; (refine o_val (v_loadea rfl rfl) rfl rfl (by decide) ?_)) | (refine k_index ?_; (refine o_val (v_index (u := rx5 op mn mx rs ks) rfl (by omega) rfl rfl) rfl rfl (by decide) ?_)) | (refine k_blt ?_; (refine o_val (v_len rfl) rfl rfl (by decide) ?_)) | (refine k_store ?_; (refine o_store0 rfl rfl rfl rfl rfl rfl ?_)))) | (refine k_ops ?_; (first | refine o_go (by first | exact .inl rfl | exact .inr ⟨_, _, _, rfl, rfl, rfl⟩) ?_ | refine o_nil ?_ | refine o_no rfl rfl (by decide) ?_ | refine o_casep rfl rfl (fun _ => ?_) (fun _ => ?_) | refine o_casen rfl rfl (fun _ => ?_) (fun _ => ?_))) | (refine k_run ?_; (first | refine r_seq ?_ | refine r_region ?_ | refine r_true rfl ?_ | refine r_false rfl ?_ | refine r_skip ?_ | refine r_block ?_ | refine r_ifn rfl (fun _ => ?_) (fun _ => ?_) | refine r_exit rfl ?_)))
      all_goals try (exfalso; omega)
      all_goals ((repeat rw [upd_upd']); first | exact r_ret Tryd.func42 _ (res_cell_one rfl rfl rfl rfl rfl rfl rfl) ⟨rfl, rfl⟩ | exact r_ret Tryd.func42 _ (res_two rfl rfl rfl) ⟨rfl, rfl⟩ | exact r_ret Tryd.func42 _ (res_one rfl rfl) ⟨rfl, rfl⟩ | exact r_ret Tryd.func42 _ (res_three rfl rfl rfl rfl) ⟨rfl, rfl⟩)
    · rw [fin_mk h1, rsOf, eX_mk]
      clear ih
      refine r_freeze 1000 rfl ?_
      repeat' (first | (refine k_op1 ?_; (first | refine o_sv rfl (by decide) ?_ | (refine k_blt ?_; (refine o_val (v_lenm rfl) rfl rfl (by decide) ?_)) | (refine k_store ?_; (refine o_store0 rfl rfl rfl rfl rfl rfl ?_)) | (refine k_build ?_; (refine o_build rfl rfl rfl rfl rfl rfl rfl (by decide) ?_)))) | (refine k_ops ?_; (first | refine o_go (by first | exact .inl rfl | exact .inr ⟨_, _, _, rfl, rfl, rfl⟩) ?_ | refine o_nil ?_ | refine o_no rfl rfl (by decide) ?_ | refine o_casep rfl rfl (fun _ => ?_) (fun _ => ?_) | refine o_casen rfl rfl (fun _ => ?_) (fun _ => ?_))) | (refine k_run ?_; (first | refine r_seq ?_ | refine r_region ?_ | refine r_false rfl ?_ | refine r_skip ?_ | refine r_block ?_ | refine r_if rfl (fun _ => ?_) (fun _ => ?_) | refine r_ifn rfl (fun _ => ?_) (fun _ => ?_) | refine r_exit rfl ?_)))
      all_goals try (exfalso; omega)
      all_goals ((repeat rw [upd_upd']); first | exact r_ret Tryd.func42 _ (res_cell_one rfl rfl rfl rfl rfl rfl rfl) ⟨rfl, rfl⟩ | exact r_ret Tryd.func42 _ (res_two rfl rfl rfl) ⟨rfl, rfl⟩ | exact r_ret Tryd.func42 _ (res_one rfl rfl) ⟨rfl, rfl⟩ | exact r_ret Tryd.func42 _ (res_three rfl rfl rfl rfl) ⟨rfl, rfl⟩)
  · rw [if_neg hend] at i4
    have hr := hR m (by omega) j i1 (by omega) (e0 + 1) (fun h => hne (by rw [← i4, h]))
    have hsf := ((p_sfx m).2.2.1 (rst s j)).1
    have hsz := (p_sz m).2.2.1 (rst s j)
    rcases hp : pR m (rst s j) with ⟨e, r⟩ | ⟨a, b⟩ | _
    · rw [hp] at hr hsf hsz i4
      obtain ⟨k, hk1, hk, rfl⟩ := rst_sfx s _ j r (Nat.le_refl _) i1 hsf
      rw [bk_ok hk] at hr
      have hsz := hsz e _ rfl
      simp only at i4
      have hn := next_s (X := X) τ s k hk 0 0 (e0 + 1)
      have hfl := flat_sz 2 e
      have hfa := szL_app acc (flat 2 e)
      obtain ⟨op, mn, mx, rs, ks⟩ := e
      rw [rsOf, eX_mk] at hr
      have hks := len_szL ks
      have ih' := ih (m, acc ++ flat 2 (.mk op mn mx rs ks), k) ⟨hk, by simp only; omega, by simp only; omega, i4⟩ (by simp only; omega)
      by_cases h2 : op = 2
      · have hf2 : flat 2 (Rx.mk op mn mx rs ks) = ks := by simp [flat, Rx.op, Rx.ks, h2]
        rw [hf2] at ih' hfl
        simp only at ih'
        subst h2
        have hn2 := hn
        repeat' (first | (refine k_op1 ?_; (first | refine o_sv rfl (by decide) ?_ | (refine k_load ?_; (refine o_val (v_load rfl rfl rfl rfl) rfl rfl (by decide) ?_)) | (refine k_field ?_; (refine o_val (v_field rfl rfl) rfl rfl (by decide) ?_)) | (refine k_blt ?_; (first | refine o_apps (g := rxc) rfl rfl rfl rfl rfl rxc_len rfl rfl (by decide) (by omega) ?_ | refine o_val (v_lenrm rfl) rfl rfl (by decide) ?_)) | (refine k_call ?_; (first | refine o_effut hr rfl (upd_get _ (e0, X) _) (bkT (by repeat (first | exact hT | refine HT.upd ?_ hX0 hX1))) (by decide) ?_ | refine o_effd hn2 rfl (bk_cons (m := (e0 + 1, X)) (upd_get _ (e0, X) _) (bkT (by repeat (first | exact hT | refine HT.upd ?_ hX0 hX1)))) (by decide) ?_)) | (refine k_store ?_; (refine o_store0 rfl rfl rfl rfl rfl rfl ?_)) | (refine k_alloc ?_; (refine o_does (d_alloc rfl rfl (by decide)) ?_)))) | (refine k_ops ?_; (first | refine o_go (by first | exact .inl rfl | exact .inr ⟨_, _, _, rfl, rfl, rfl⟩) ?_ | refine o_nil ?_ | refine o_no rfl rfl (by decide) ?_ | refine o_casep rfl rfl (fun _ => ?_) (fun _ => ?_) | refine o_casen rfl rfl (fun _ => ?_) (fun _ => ?_))) | (refine k_run ?_; (first | refine r_seq ?_ | refine r_region ?_ | refine r_true rfl ?_ | refine r_false rfl ?_ | refine r_skip ?_ | refine r_block ?_ | refine r_inBlock ?_ | refine r_if rfl (fun _ => ?_) (fun _ => ?_) | refine r_ifn rfl (fun _ => ?_) (fun _ => ?_) | refine r_exit rfl ?_)))
        all_goals try (exfalso; omega)
        all_goals ((repeat rw [upd_upd']); refine r_ren 36 1000 rfl rfl ?_; exact r_less ih' rfl rfl)
      · have hf2 : flat 2 (Rx.mk op mn mx rs ks) = [Rx.mk op mn mx rs ks] := by simp [flat, Rx.op, h2]
        rw [hf2] at ih'
        simp only at ih'
        have hn2 := hn
        repeat' (first | (refine k_op1 ?_; (first | refine o_sv rfl (by decide) ?_ | (refine k_load ?_; (first | refine o_val (v_load rfl rfl rfl rfl) rfl rfl (by decide) ?_ | refine o_val (v_loadp rfl rfl rfl rfl) rfl rfl (by decide) ?_)) | (refine k_field ?_; (refine o_val (v_field rfl rfl) rfl rfl (by decide) ?_)) | (refine k_blt ?_; (first | refine o_app1 (g := rxc) rfl rfl (Rx.mk op mn mx rs ks) (by rw [rxc_mk]; rfl) rfl rfl rfl (rxc_len _) rfl rfl (by decide) (by omega) ?_ | refine o_apps (g := rxc) rfl rfl rfl rfl rfl rxc_len rfl rfl (by decide) (by omega) ?_ | refine o_val (v_lenrm rfl) rfl rfl (by decide) ?_)) | (refine k_call ?_; (first | refine o_effut hr rfl (upd_get _ (e0, X) _) (bkT (by repeat (first | exact hT | refine HT.upd ?_ hX0 hX1))) (by decide) ?_ | refine o_effd hn2 rfl (bk_cons (m := (e0 + 1, X)) (upd_get _ (e0, X) _) (bkT (by repeat (first | exact hT | refine HT.upd ?_ hX0 hX1)))) (by decide) ?_)) | (refine k_store ?_; (refine o_store0 rfl rfl rfl rfl rfl rfl ?_)) | (refine k_alloc ?_; (refine o_does (d_alloc rfl rfl (by decide)) ?_)) | (refine k_lit ?_; (refine o_lit rfl rfl rfl rfl rfl rfl rfl rfl (by decide) ?_)))) | (refine k_ops ?_; (first | refine o_go (by first | exact .inl rfl | exact .inr ⟨_, _, _, rfl, rfl, rfl⟩) ?_ | refine o_nil ?_ | refine o_no rfl rfl (by decide) ?_ | refine o_casep rfl rfl (fun _ => ?_) (fun _ => ?_) | refine o_casen rfl rfl (fun _ => ?_) (fun _ => ?_))) | (refine k_run ?_; (first | refine r_seq ?_ | refine r_region ?_ | refine r_false rfl ?_ | refine r_skip ?_ | refine r_block ?_ | refine r_inBlock ?_ | refine r_if rfl (fun _ => ?_) (fun _ => ?_) | refine r_ifn rfl (fun _ => ?_) (fun _ => ?_) | refine r_exit rfl ?_)))
        all_goals try (exfalso; omega)
        all_goals ((repeat rw [upd_upd']); refine r_ren 40 1000 rfl rfl ?_; exact r_less ih' rfl rfl)
    · rw [hp] at hr i4
      simp only at i4
      rw [← i4, rsOf, nil_mk]
      rw [rsOf, nil_mk] at hr
      repeat' (first | (refine k_op1 ?_; (first | refine o_sv rfl (by decide) ?_ | (refine k_blt ?_; (refine o_val (v_lenrm rfl) rfl rfl (by decide) ?_)) | (refine k_call ?_; (refine o_effut hr rfl (upd_get _ (e0, X) _) (bkT (by repeat (first | exact hT | refine HT.upd ?_ hX0 hX1))) (by decide) ?_)) | (refine k_store ?_; (refine o_store0 rfl rfl rfl rfl rfl rfl ?_)) | (refine k_alloc ?_; (refine o_does (d_alloc rfl rfl (by decide)) ?_)) | (refine k_build ?_; (refine o_build rfl rfl rfl rfl rfl rfl rfl (by decide) ?_)))) | (refine k_ops ?_; (first | refine o_go (by first | exact .inl rfl | exact .inr ⟨_, _, _, rfl, rfl, rfl⟩) ?_ | refine o_nil ?_ | refine o_no rfl rfl (by decide) ?_ | refine o_casep rfl rfl (fun _ => ?_) (fun _ => ?_) | refine o_casen rfl rfl (fun _ => ?_) (fun _ => ?_))) | (refine k_run ?_; (first | refine r_seq ?_ | refine r_region ?_ | refine r_true rfl ?_ | refine r_false rfl ?_ | refine r_skip ?_ | refine r_block ?_ | refine r_if rfl (fun _ => ?_) (fun _ => ?_) | refine r_ifn rfl (fun _ => ?_) (fun _ => ?_) | refine r_exit rfl ?_)))
      all_goals try (exfalso; omega)
      all_goals ((repeat rw [upd_upd']); first | exact r_ret Tryd.func42 _ (res_cell_one rfl rfl rfl rfl rfl rfl rfl) ⟨rfl, rfl⟩ | exact r_ret Tryd.func42 _ (res_two rfl rfl rfl) ⟨rfl, rfl⟩ | exact r_ret Tryd.func42 _ (res_one rfl rfl) ⟨rfl, rfl⟩ | exact r_ret Tryd.func42 _ (res_three rfl rfl rfl rfl) ⟨rfl, rfl⟩)
    · rw [hp] at i4; exact absurd i4.symm hne
end
end Go.Proofs.YtjmbjgecfpggdaaDoor
namespace Go.Proofs.YtjmbjgecfpggdaaDoor
open Go.Ab Go.Rx
set_option maxHeartbeats 20000000
set_option maxRecDepth 100000
set_option linter.unusedVariables false
set_option linter.unusedSimpArgs false
set_option linter.unusedSectionVars false
attribute [local irreducible] Run Ops Op1 Does Val Tr PureF Eff1 NF Rel EffV EffM
section
variable {X : Nat} (hX0 : X ≠ 700) (hX1 : X ≠ 701) (τ : Tab) (s : ByteArray) (hs : s.size ≤ 1000000)
include hX0 hX1 hs
theorem union_s (N : Nat) (hC : ∀ m, m < N → HC X τ s m) : HU X τ s N := by
  intro i hi e0 hne
  refine eff_of fun H hH => ?_
  have hX : H e0 X = some (pbx s i 0 0) := hH ((e0, X), pbx s i 0 0) (by simp)
  have hT : HT τ (e0 + 1) H := HT.of (bs := [((e0, X), pbx s i 0 0)]) hH
  refine spec_of Tryd.func31 (by kernel_rfl) rfl (by simp) ?_
  dsimp only [Tryd.f31]
  have hil := rst_len s _ i (Nat.le_refl _)
  obtain ⟨T, hT0⟩ : ∃ T, pU N [] (rst s i) = T := ⟨_, rfl⟩
  rw [hT0] at hne ⊢
  repeat' (first | (refine k_op1 ?_; (first | refine o_sv rfl (by decide) ?_ | (refine k_alloc ?_; (refine o_does (d_alloc rfl rfl (by decide)) ?_)))) | (refine k_ops ?_; (first | refine o_go (by first | exact .inl rfl | exact .inr ⟨_, _, _, rfl, rfl, rfl⟩) ?_ | refine o_nil ?_)) | (refine k_run ?_; (first | refine r_seq ?_ | refine r_region ?_ | refine r_block ?_)))
  all_goals try (exfalso; omega)
  refine r_slot_row 4 1000 25 5 rfl rfl rfl ?_
  refine r_loop ?_
  refine r_upid (m := (e0, X)) hX ?_
  refine r_less (r_inv (fun q : Nat × List Rx × Nat => ⟨44, [(0, .ptr (e0 + 1, X) 0), (2, .ptr (0, 2) 0), (4, .ref (0, 1000))], [(1000, .row 25 5 (q.2.1.map rxc)), (2, .box (zeroP [Value.int .i64 0, Value.int .i64 0, Value.int .i64 0, nilS, nilS]))], upd H (e0, X) (pbx s (q.2.2 : Nat) 0 0)⟩)
    (fun q => q.2.2 ≤ s.size ∧ q.1 ≤ N ∧ szL q.2.1 + 2 * (rst s q.2.2).length ≤ 2 * (rst s i).length ∧ pU q.1 q.2.1 (rst s q.2.2) = T) (fun q => q.1) ?_ (N, [], i) ⟨hi, Nat.le_refl _, by simp [szL], hT0⟩) rfl rfl
  clear hT0
  rintro ⟨m, acc, j⟩ ⟨i1, i2, i3, i4⟩ ih
  simp only at i1 i2 i3 i4 ih ⊢
  cases m with
  | zero => rw [pU] at i4; exact absurd i4.symm hne
  | succ m =>
  rw [pU] at i4
  have hal := len_szL acc
  have hr := hC m (by omega) j i1 (e0 + 1) (fun h => hne (by rw [← i4, h]))
  have hsf := (p_sfx m).2.1 [] (rst s j)
  have hsz := (p_sz m).2.1 [] (rst s j)
  rcases hp : pC m [] (rst s j) with ⟨e, r⟩ | ⟨a, b⟩ | _
  · rw [hp] at hr hsf hsz i4
    obtain ⟨k, hk1, hk, rfl⟩ := rst_sfx s _ j r (Nat.le_refl _) i1 hsf
    rw [bk_ok hk] at hr
    have hsz := hsz e _ rfl
    simp only [szL] at i4 hsz
    have hn := next_s (X := X) τ s k hk 0 0 (e0 + 1)
    have hfl := flat_sz 3 e
    have hfa := szL_app acc (flat 3 e)
    have hjl := rst_len s _ j (Nat.le_refl _)
    obtain ⟨op, mn, mx, rs, ks⟩ := e
    rw [rsOf, eX_mk] at hr
    have hks := len_szL ks
    by_cases h124 : nx (rst s k) = 124
    · rw [if_pos h124] at i4
      obtain ⟨hkl, htk, hek⟩ := rst_asc hk h124 (by decide) (by decide)
      have hkk := tl_len h124 (by decide)
      rw [htk] at i4 hkk
      have ih' := ih (m, acc ++ flat 3 (.mk op mn mx rs ks), k + 1) ⟨hkl, by simp only; omega, by simp only; omega, i4⟩ (by simp only; omega)
      by_cases h2 : op = 3
      · have hf2 : flat 3 (Rx.mk op mn mx rs ks) = ks := by simp [flat, Rx.op, Rx.ks, h2]
        rw [hf2] at ih' hfl
        simp only at ih'
        subst h2
        repeat' (first | (refine k_op1 ?_; (first | refine o_sv rfl (by decide) ?_ | (refine k_load ?_; (first | refine o_loadu rfl (upd_get _ (e0, X) _) rfl rfl rfl rfl (by decide) ?_ | refine o_val (v_load rfl rfl rfl rfl) rfl rfl (by decide) ?_)) | (refine k_field ?_; (refine o_val (v_field rfl rfl) rfl rfl (by decide) ?_)) | (refine k_bin ?_; (refine o_val (v_add (wi64 (by omega) (by omega))) rfl rfl (by decide) ?_)) | (refine k_blt ?_; (first | refine o_apps (g := rxc) rfl rfl rfl rfl rfl rxc_len rfl rfl (by decide) (by omega) ?_ | refine o_val (v_lenrm rfl) rfl rfl (by decide) ?_)) | (refine k_call ?_; (first | refine o_effut hr rfl (upd_get _ (e0, X) _) (bkT (by repeat (first | exact hT | refine HT.upd ?_ hX0 hX1))) (by decide) ?_ | refine o_effd hn rfl (bk_cons (m := (e0 + 1, X)) (upd_get _ (e0, X) _) (bkT (by repeat (first | exact hT | refine HT.upd ?_ hX0 hX1)))) (by decide) ?_)) | (refine k_store ?_; (first | refine o_storeu (raw' := pbx s ((k + 1 : Nat) : Int) 0 0) rfl (upd_get _ (e0, X) _) rfl rfl rfl rfl rfl rfl ?_ | refine o_store0 rfl rfl rfl rfl rfl rfl ?_)) | (refine k_alloc ?_; (refine o_does (d_alloc rfl rfl (by decide)) ?_)))) | (refine k_ops ?_; (first | refine o_go (by first | exact .inl rfl | exact .inr ⟨_, _, _, rfl, rfl, rfl⟩) ?_ | refine o_nil ?_)) | (refine k_run ?_; (first | refine r_seq ?_ | refine r_region ?_ | refine r_true rfl ?_ | refine r_false rfl ?_ | refine r_skip ?_ | refine r_block ?_ | refine r_inBlock ?_ | refine r_if rfl (fun _ => ?_) (fun _ => ?_) | refine r_ifn rfl (fun _ => ?_) (fun _ => ?_) | refine r_exit rfl ?_)))
        all_goals try (exfalso; omega)
        all_goals ((repeat rw [upd_upd']); refine r_ren 21 1000 rfl rfl ?_; exact r_less ih' rfl rfl)
      · have hf2 : flat 3 (Rx.mk op mn mx rs ks) = [Rx.mk op mn mx rs ks] := by simp [flat, Rx.op, h2]
        rw [hf2] at ih'
        simp only at ih'
        repeat' (first | (refine k_op1 ?_; (first | refine o_sv rfl (by decide) ?_ | (refine k_load ?_; (first | refine o_loadu rfl (upd_get _ (e0, X) _) rfl rfl rfl rfl (by decide) ?_ | refine o_val (v_load rfl rfl rfl rfl) rfl rfl (by decide) ?_ | refine o_val (v_loadp rfl rfl rfl rfl) rfl rfl (by decide) ?_)) | (refine k_field ?_; (refine o_val (v_field rfl rfl) rfl rfl (by decide) ?_)) | (refine k_bin ?_; (refine o_val (v_add (wi64 (by omega) (by omega))) rfl rfl (by decide) ?_)) | (refine k_blt ?_; (first | refine o_app1 (g := rxc) rfl rfl (Rx.mk op mn mx rs ks) (by rw [rxc_mk]; rfl) rfl rfl rfl (rxc_len _) rfl rfl (by decide) (by omega) ?_ | refine o_apps (g := rxc) rfl rfl rfl rfl rfl rxc_len rfl rfl (by decide) (by omega) ?_ | refine o_val (v_lenrm rfl) rfl rfl (by decide) ?_)) | (refine k_call ?_; (first | refine o_effut hr rfl (upd_get _ (e0, X) _) (bkT (by repeat (first | exact hT | refine HT.upd ?_ hX0 hX1))) (by decide) ?_ | refine o_effd hn rfl (bk_cons (m := (e0 + 1, X)) (upd_get _ (e0, X) _) (bkT (by repeat (first | exact hT | refine HT.upd ?_ hX0 hX1)))) (by decide) ?_)) | (refine k_store ?_; (first | refine o_storeu (raw' := pbx s ((k + 1 : Nat) : Int) 0 0) rfl (upd_get _ (e0, X) _) rfl rfl rfl rfl rfl rfl ?_ | refine o_store0 rfl rfl rfl rfl rfl rfl ?_)) | (refine k_alloc ?_; (refine o_does (d_alloc rfl rfl (by decide)) ?_)) | (refine k_lit ?_; (refine o_lit rfl rfl rfl rfl rfl rfl rfl rfl (by decide) ?_)))) | (refine k_ops ?_; (first | refine o_go (by first | exact .inl rfl | exact .inr ⟨_, _, _, rfl, rfl, rfl⟩) ?_ | refine o_nil ?_)) | (refine k_run ?_; (first | refine r_seq ?_ | refine r_region ?_ | refine r_false rfl ?_ | refine r_skip ?_ | refine r_block ?_ | refine r_inBlock ?_ | refine r_if rfl (fun _ => ?_) (fun _ => ?_) | refine r_ifn rfl (fun _ => ?_) (fun _ => ?_) | refine r_exit rfl ?_)))
        all_goals try (exfalso; omega)
        all_goals ((repeat rw [upd_upd']); refine r_ren 25 1000 rfl rfl ?_; exact r_less ih' rfl rfl)
    · rw [if_neg h124] at i4
      clear ih
      by_cases h2 : op = 3
      · have hf2 : flat 3 (Rx.mk op mn mx rs ks) = ks := by simp [flat, Rx.op, Rx.ks, h2]
        rw [hf2] at i4 hfl
        subst h2
        by_cases h1 : (acc ++ ks).length = 1
        · obtain ⟨x, hx⟩ := List.length_eq_one_iff.1 h1
          rw [hx] at i4
          obtain ⟨op', mn', mx', rs', ks'⟩ := x
          rw [← i4, bk_ok hk, show fin 3 [Rx.mk op' mn' mx' rs' ks'] = Rx.mk op' mn' mx' rs' ks' from rfl, rsOf, eX_mk]
          repeat' (first | (refine k_op1 ?_; (first | refine o_sv rfl (by decide) ?_ | (refine k_load ?_; (first | refine o_loadu rfl (upd_get _ (e0, X) _) rfl rfl rfl rfl (by decide) ?_ | refine o_val (v_load rfl rfl rfl rfl) rfl rfl (by decide) ?_ | refine o_val (v_loadea rfl rfl) rfl rfl (by decide) ?_)) | (refine k_field ?_; (refine o_val (v_field rfl rfl) rfl rfl (by decide) ?_)) | (refine k_index ?_; (refine o_val (v_index (u := rx5 op' mn' mx' rs' ks') rfl (by omega) rfl rfl) rfl rfl (by decide) ?_)) | (refine k_bin ?_; (refine o_val (v_add (wi64 (by omega) (by omega))) rfl rfl (by decide) ?_)) | (refine k_blt ?_; (first | refine o_apps (g := rxc) rfl rfl rfl rfl rfl rxc_len rfl rfl (by decide) (by omega) ?_ | refine o_val (v_len rfl) rfl rfl (by decide) ?_)) | (refine k_call ?_; (first | (refine o_effd hn rfl (bk_cons (m := (e0 + 1, X)) (upd_get _ (e0, X) _) (bkT (by repeat (first | exact hT | refine HT.upd ?_ hX0 hX1)))) (by decide) ?_; refine o_freeze 21 rfl ?_; rw [hx, List.map_cons, List.map_nil, rxc_mk]) | refine o_effut hr rfl (upd_get _ (e0, X) _) (bkT (by repeat (first | exact hT | refine HT.upd ?_ hX0 hX1))) (by decide) ?_)) | (refine k_store ?_; (first | refine o_storeu (raw' := pbx s ((k + 1 : Nat) : Int) 0 0) rfl (upd_get _ (e0, X) _) rfl rfl rfl rfl rfl rfl ?_ | refine o_store0 rfl rfl rfl rfl rfl rfl ?_)) | (refine k_alloc ?_; (refine o_does (d_alloc rfl rfl (by decide)) ?_)))) | (refine k_ops ?_; (first | refine o_go (by first | exact .inl rfl | exact .inr ⟨_, _, _, rfl, rfl, rfl⟩) ?_ | refine o_nil ?_)) | (refine k_run ?_; (first | refine r_seq ?_ | refine r_region ?_ | refine r_true rfl ?_ | refine r_false rfl ?_ | refine r_skip ?_ | refine r_block ?_ | refine r_inBlock ?_ | refine r_ifn rfl (fun _ => ?_) (fun _ => ?_) | refine r_exit rfl ?_)))
          all_goals try (exfalso; omega)
          all_goals ((repeat rw [upd_upd']); first | exact r_ret Tryd.func31 _ (res_cell_one rfl rfl rfl rfl rfl rfl rfl) ⟨rfl, rfl⟩ | exact r_ret Tryd.func31 _ (res_two rfl rfl rfl) ⟨rfl, rfl⟩ | exact r_ret Tryd.func31 _ (res_one rfl rfl) ⟨rfl, rfl⟩ | exact r_ret Tryd.func31 _ (res_three rfl rfl rfl rfl) ⟨rfl, rfl⟩)
        · rw [fin_mk h1] at i4
          rw [← i4, bk_ok hk, rsOf, eX_mk]
          repeat' (first | (refine k_op1 ?_; (first | refine o_sv rfl (by decide) ?_ | (refine k_load ?_; (first | refine o_loadu rfl (upd_get _ (e0, X) _) rfl rfl rfl rfl (by decide) ?_ | refine o_val (v_load rfl rfl rfl rfl) rfl rfl (by decide) ?_)) | (refine k_field ?_; (refine o_val (v_field rfl rfl) rfl rfl (by decide) ?_)) | (refine k_bin ?_; (refine o_val (v_add (wi64 (by omega) (by omega))) rfl rfl (by decide) ?_)) | (refine k_blt ?_; (first | refine o_apps (g := rxc) rfl rfl rfl rfl rfl rxc_len rfl rfl (by decide) (by omega) ?_ | refine o_val (v_lenm rfl) rfl rfl (by decide) ?_)) | (refine k_call ?_; (first | (refine o_effd hn rfl (bk_cons (m := (e0 + 1, X)) (upd_get _ (e0, X) _) (bkT (by repeat (first | exact hT | refine HT.upd ?_ hX0 hX1)))) (by decide) ?_; refine o_freeze 21 rfl ?_) | refine o_effut hr rfl (upd_get _ (e0, X) _) (bkT (by repeat (first | exact hT | refine HT.upd ?_ hX0 hX1))) (by decide) ?_)) | (refine k_store ?_; (first | refine o_storeu (raw' := pbx s ((k + 1 : Nat) : Int) 0 0) rfl (upd_get _ (e0, X) _) rfl rfl rfl rfl rfl rfl ?_ | refine o_store0 rfl rfl rfl rfl rfl rfl ?_)) | (refine k_alloc ?_; (refine o_does (d_alloc rfl rfl (by decide)) ?_)) | (refine k_build ?_; (refine o_build rfl rfl rfl rfl rfl rfl rfl (by decide) ?_)))) | (refine k_ops ?_; (first | refine o_go (by first | exact .inl rfl | exact .inr ⟨_, _, _, rfl, rfl, rfl⟩) ?_ | refine o_nil ?_)) | (refine k_run ?_; (first | refine r_seq ?_ | refine r_region ?_ | refine r_true rfl ?_ | refine r_false rfl ?_ | refine r_skip ?_ | refine r_block ?_ | refine r_inBlock ?_ | refine r_if rfl (fun _ => ?_) (fun _ => ?_) | refine r_ifn rfl (fun _ => ?_) (fun _ => ?_) | refine r_exit rfl ?_)))
          all_goals try (exfalso; omega)
          all_goals ((repeat rw [upd_upd']); first | exact r_ret Tryd.func31 _ (res_cell_one rfl rfl rfl rfl rfl rfl rfl) ⟨rfl, rfl⟩ | exact r_ret Tryd.func31 _ (res_two rfl rfl rfl) ⟨rfl, rfl⟩ | exact r_ret Tryd.func31 _ (res_one rfl rfl) ⟨rfl, rfl⟩ | exact r_ret Tryd.func31 _ (res_three rfl rfl rfl rfl) ⟨rfl, rfl⟩)
      · have hf2 : flat 3 (Rx.mk op mn mx rs ks) = [Rx.mk op mn mx rs ks] := by simp [flat, Rx.op, h2]
        rw [hf2] at i4
        by_cases h1 : (acc ++ [Rx.mk op mn mx rs ks]).length = 1
        · obtain ⟨x, hx⟩ := List.length_eq_one_iff.1 h1
          rw [hx] at i4
          obtain ⟨op', mn', mx', rs', ks'⟩ := x
          rw [← i4, bk_ok hk, show fin 3 [Rx.mk op' mn' mx' rs' ks'] = Rx.mk op' mn' mx' rs' ks' from rfl, rsOf, eX_mk]
          repeat' (first | (refine k_op1 ?_; (first | refine o_sv rfl (by decide) ?_ | (refine k_load ?_; (first | refine o_loadu rfl (upd_get _ (e0, X) _) rfl rfl rfl rfl (by decide) ?_ | refine o_val (v_load rfl rfl rfl rfl) rfl rfl (by decide) ?_ | refine o_val (v_loadea rfl rfl) rfl rfl (by decide) ?_ | refine o_val (v_loadp rfl rfl rfl rfl) rfl rfl (by decide) ?_)) | (refine k_field ?_; (refine o_val (v_field rfl rfl) rfl rfl (by decide) ?_)) | (refine k_index ?_; (refine o_val (v_index (u := rx5 op' mn' mx' rs' ks') rfl (by omega) rfl rfl) rfl rfl (by decide) ?_)) | (refine k_bin ?_; (refine o_val (v_add (wi64 (by omega) (by omega))) rfl rfl (by decide) ?_)) | (refine k_blt ?_; (first | refine o_app1 (g := rxc) rfl rfl (Rx.mk op mn mx rs ks) (by rw [rxc_mk]; rfl) rfl rfl rfl (rxc_len _) rfl rfl (by decide) (by omega) ?_ | refine o_apps (g := rxc) rfl rfl rfl rfl rfl rxc_len rfl rfl (by decide) (by omega) ?_ | refine o_val (v_len rfl) rfl rfl (by decide) ?_ | refine o_val (v_lenrm rfl) rfl rfl (by decide) ?_)) | (refine k_call ?_; (first | (refine o_effd hn rfl (bk_cons (m := (e0 + 1, X)) (upd_get _ (e0, X) _) (bkT (by repeat (first | exact hT | refine HT.upd ?_ hX0 hX1)))) (by decide) ?_; refine o_freeze 25 rfl ?_; rw [hx, List.map_cons, List.map_nil, rxc_mk]) | refine o_effut hr rfl (upd_get _ (e0, X) _) (bkT (by repeat (first | exact hT | refine HT.upd ?_ hX0 hX1))) (by decide) ?_ | refine o_effd hn rfl (bk_cons (m := (e0 + 1, X)) (upd_get _ (e0, X) _) (bkT (by repeat (first | exact hT | refine HT.upd ?_ hX0 hX1)))) (by decide) ?_)) | (refine k_store ?_; (first | refine o_storeu (raw' := pbx s ((k + 1 : Nat) : Int) 0 0) rfl (upd_get _ (e0, X) _) rfl rfl rfl rfl rfl rfl ?_ | refine o_store0 rfl rfl rfl rfl rfl rfl ?_)) | (refine k_alloc ?_; (refine o_does (d_alloc rfl rfl (by decide)) ?_)) | (refine k_lit ?_; (refine o_lit rfl rfl rfl rfl rfl rfl rfl rfl (by decide) ?_)))) | (refine k_ops ?_; (first | refine o_go (by first | exact .inl rfl | exact .inr ⟨_, _, _, rfl, rfl, rfl⟩) ?_ | refine o_nil ?_)) | (refine k_run ?_; (first | refine r_seq ?_ | refine r_region ?_ | refine r_true rfl ?_ | refine r_false rfl ?_ | refine r_skip ?_ | refine r_block ?_ | refine r_inBlock ?_ | refine r_if rfl (fun _ => ?_) (fun _ => ?_) | refine r_ifn rfl (fun _ => ?_) (fun _ => ?_) | refine r_exit rfl ?_)))
          all_goals try (exfalso; omega)
          all_goals ((repeat rw [upd_upd']); first | exact r_ret Tryd.func31 _ (res_cell_one rfl rfl rfl rfl rfl rfl rfl) ⟨rfl, rfl⟩ | exact r_ret Tryd.func31 _ (res_two rfl rfl rfl) ⟨rfl, rfl⟩ | exact r_ret Tryd.func31 _ (res_one rfl rfl) ⟨rfl, rfl⟩ | exact r_ret Tryd.func31 _ (res_three rfl rfl rfl rfl) ⟨rfl, rfl⟩)
        · rw [fin_mk h1] at i4
          rw [← i4, bk_ok hk, rsOf, eX_mk]
          repeat' (first | (refine k_op1 ?_; (first | refine o_sv rfl (by decide) ?_ | (refine k_load ?_; (first | refine o_loadu rfl (upd_get _ (e0, X) _) rfl rfl rfl rfl (by decide) ?_ | refine o_val (v_load rfl rfl rfl rfl) rfl rfl (by decide) ?_ | refine o_val (v_loadp rfl rfl rfl rfl) rfl rfl (by decide) ?_)) | (refine k_field ?_; (refine o_val (v_field rfl rfl) rfl rfl (by decide) ?_)) | (refine k_bin ?_; (refine o_val (v_add (wi64 (by omega) (by omega))) rfl rfl (by decide) ?_)) | (refine k_blt ?_; (first | refine o_app1 (g := rxc) rfl rfl (Rx.mk op mn mx rs ks) (by rw [rxc_mk]; rfl) rfl rfl rfl (rxc_len _) rfl rfl (by decide) (by omega) ?_ | refine o_apps (g := rxc) rfl rfl rfl rfl rfl rxc_len rfl rfl (by decide) (by omega) ?_ | refine o_val (v_lenm rfl) rfl rfl (by decide) ?_ | refine o_val (v_lenrm rfl) rfl rfl (by decide) ?_)) | (refine k_call ?_; (first | (refine o_effd hn rfl (bk_cons (m := (e0 + 1, X)) (upd_get _ (e0, X) _) (bkT (by repeat (first | exact hT | refine HT.upd ?_ hX0 hX1)))) (by decide) ?_; refine o_freeze 25 rfl ?_) | refine o_effut hr rfl (upd_get _ (e0, X) _) (bkT (by repeat (first | exact hT | refine HT.upd ?_ hX0 hX1))) (by decide) ?_ | refine o_effd hn rfl (bk_cons (m := (e0 + 1, X)) (upd_get _ (e0, X) _) (bkT (by repeat (first | exact hT | refine HT.upd ?_ hX0 hX1)))) (by decide) ?_)) | (refine k_store ?_; (first | refine o_storeu (raw' := pbx s ((k + 1 : Nat) : Int) 0 0) rfl (upd_get _ (e0, X) _) rfl rfl rfl rfl rfl rfl ?_ | refine o_store0 rfl rfl rfl rfl rfl rfl ?_)) | (refine k_alloc ?_; (refine o_does (d_alloc rfl rfl (by decide)) ?_)) | (refine k_build ?_; (refine o_build rfl rfl rfl rfl rfl rfl rfl (by decide) ?_)) | (refine k_lit ?_; (refine o_lit rfl rfl rfl rfl rfl rfl rfl rfl (by decide) ?_)))) | (refine k_ops ?_; (first | refine o_go (by first | exact .inl rfl | exact .inr ⟨_, _, _, rfl, rfl, rfl⟩) ?_ | refine o_nil ?_)) | (refine k_run ?_; (first | refine r_seq ?_ | refine r_region ?_ | refine r_false rfl ?_ | refine r_skip ?_ | refine r_block ?_ | refine r_inBlock ?_ | refine r_if rfl (fun _ => ?_) (fun _ => ?_) | refine r_ifn rfl (fun _ => ?_) (fun _ => ?_) | refine r_exit rfl ?_)))
          all_goals try (exfalso; omega)
          all_goals ((repeat rw [upd_upd']); first | exact r_ret Tryd.func31 _ (res_cell_one rfl rfl rfl rfl rfl rfl rfl) ⟨rfl, rfl⟩ | exact r_ret Tryd.func31 _ (res_two rfl rfl rfl) ⟨rfl, rfl⟩ | exact r_ret Tryd.func31 _ (res_one rfl rfl) ⟨rfl, rfl⟩ | exact r_ret Tryd.func31 _ (res_three rfl rfl rfl rfl) ⟨rfl, rfl⟩)
  · rw [hp] at hr i4
    simp only at i4
    rw [← i4, rsOf, nil_mk]
    rw [rsOf, nil_mk] at hr
    repeat' (first | (refine k_op1 ?_; (first | refine o_sv rfl (by decide) ?_ | (refine k_call ?_; (refine o_effut hr rfl (upd_get _ (e0, X) _) (bkT (by repeat (first | exact hT | refine HT.upd ?_ hX0 hX1))) (by decide) ?_)) | (refine k_store ?_; (refine o_store0 rfl rfl rfl rfl rfl rfl ?_)) | (refine k_alloc ?_; (refine o_does (d_alloc rfl rfl (by decide)) ?_)) | (refine k_build ?_; (refine o_build rfl rfl rfl rfl rfl rfl rfl (by decide) ?_)))) | (refine k_ops ?_; (first | refine o_go (by first | exact .inl rfl | exact .inr ⟨_, _, _, rfl, rfl, rfl⟩) ?_ | refine o_nil ?_)) | (refine k_run ?_; (first | refine r_seq ?_ | refine r_region ?_ | refine r_true rfl ?_ | refine r_block ?_)))
    all_goals try (exfalso; omega)
    all_goals ((repeat rw [upd_upd']); first | exact r_ret Tryd.func31 _ (res_cell_one rfl rfl rfl rfl rfl rfl rfl) ⟨rfl, rfl⟩ | exact r_ret Tryd.func31 _ (res_two rfl rfl rfl) ⟨rfl, rfl⟩ | exact r_ret Tryd.func31 _ (res_one rfl rfl) ⟨rfl, rfl⟩ | exact r_ret Tryd.func31 _ (res_three rfl rfl rfl rfl) ⟨rfl, rfl⟩)
  · rw [hp] at i4; exact absurd i4.symm hne
theorem parts_s (N : Nat) : HU X τ s N := by
  induction N using Nat.strongRecOn with
  | _ N ih =>
    refine union_s hX0 hX1 τ s hs N fun m hm => concat_s hX0 hX1 τ s hs m fun k hk => ?_
    match k, hk with
    | 0, _ => intro i hi h0 e0 h; exact absurd (by rw [pR]) h
    | 1, _ => intro i hi h0 e0 h; exact absurd (by rw [pR, pA]) h
    | k + 2, hk => exact repeat_s hX0 hX1 τ s hs k (atom_s hX0 hX1 τ s hs k (ih k (by omega)))
end
end Go.Proofs.YtjmbjgecfpggdaaDoor
namespace Go.Proofs.YtjmbjgecfpggdaaDoor
open Go.Ab Go.Rx
set_option maxHeartbeats 20000000
set_option maxRecDepth 100000
set_option linter.unusedVariables false
set_option linter.unusedSimpArgs false
set_option linter.unusedSectionVars false
attribute [local irreducible] Run Ops Op1 Does Val Tr PureF Eff1 NF Rel EffV EffM
theorem fit_of (N : Nat) (hN : N ≤ 9223372036854775807) : (∀ e : Rx, sz e ≤ N → Rx.rsB N e → fit e) ∧ ∀ l : List Rx, szL l ≤ N → rsBL N l → fitL l := by
  refine Rx.ind (fun op mn mx rs ks ih h1 h2 => ?_) (fun _ _ => by rw [fitL]; trivial) (fun k ks ihk ih h1 h2 => ?_)
  · rw [sz] at h1
    rw [Rx.rsB] at h2
    have := len_szL ks
    rw [fit]
    exact ⟨by omega, by omega, ih (by omega) h2.2⟩
  · rw [szL] at h1
    rw [rsBL] at h2
    rw [fitL]
    exact ⟨ihk (by omega) h2.1, ih (by omega) h2.2⟩
theorem rsB_le {C D : Nat} (h : C ≤ D) : ∀ {e : Rx}, Rx.rsB C e → Rx.rsB D e :=
  fun {e} => (Rx.ind (p := fun e => Rx.rsB C e → Rx.rsB D e) (q := fun l => rsBL C l → rsBL D l) (fun op mn mx rs ks ih h1 => by
    rw [Rx.rsB] at h1 ⊢; exact ⟨Nat.le_trans h1.1 h, ih h1.2⟩) (fun _ => by rw [rsBL]; trivial) (fun k ks ihk ih h1 => by
    rw [rsBL] at h1 ⊢; exact ⟨ihk h1.1, ih h1.2⟩)).1 e
theorem o_effot {P : Program} {f : FuncId} {R : Post} {k : List Item} {all : Array Oper} {l : List Oper} {n : Nat} {tm : List (Nat × PV)} {hp : Hp} {up : Hf} {d : Nat} {ty : TypeId} {pos : String} {aft : Array Edge} {gd : Option (Nat × Bool)} {p : PV} {g : FuncId} {args : List Operand} {ps : List PV} {ats : Array TypeId} {ms : Nat} {b b' : Blk} {bs : List (Nm × Blk)}
    (hsp : Eff1 P g ps (((0, ms), b) :: bs) [((0, ms), b')] p) (hev : St.evs ⟨n, tm, hp, up⟩ args = some ps) (hb : Ab.look hp ms = some b) (hbs : BkE ⟨n, tm, hp, up⟩ bs) (hd : d < n)
    (h : Ops P f R all l k ⟨n, (d, p) :: tm, (ms, b') :: hp, up⟩) : Op1 P f R all ⟨some d, .call ⟨.value (.func g), args.toArray, ats⟩, ty, pos, aft, gd⟩ l k ⟨n, tm, hp, up⟩ :=
  o_eff hsp hev (bk_cons (m := (0, ms)) hb hbs) hd rfl h
def isBad (u : Un) : Bool := decide (u.1 = 65533) && decide (u.2.2 = 1)
def parseS (s : ByteArray) : Rx × Int × Int :=
  if 200 < s.size then (nil0, 0, 2) else match (unF 0 (rst s 0)).find? isBad with
    | some u => (nil0, u.2.1, 7)
    | none => parseU s.size (rst s 0)
theorem unF_len : ∀ (l : List U) (i : Nat), (unF i l).length = l.length
  | [], i => rfl
  | u :: l, i => by rw [unF, List.length_cons, List.length_cons, unF_len l]
theorem parse_s (τ : Tab) (s : ByteArray) (hs : s.size ≤ 1000000) : Eff1 Tryd.prog 14 [S s] (tabs τ 0) [] (.tup [.d (eX (parseS s).1), I .i64 (parseS s).2.1, I .i64 (parseS s).2.2]) := by
  refine eff_of fun H hH => ?_
  have hT : HT τ 0 H := HT.of (bs := []) hH
  refine spec_of Tryd.func14 (by kernel_rfl) rfl (by simp) ?_
  dsimp only [Tryd.f14]
  by_cases h200 : 200 < s.size
  · rw [parseS, if_pos h200, nil_mk]
    repeat' (first | (refine k_op1 ?_; (first | refine o_sv rfl (by decide) ?_ | (refine k_blt ?_; (refine o_val (v_lens rfl) rfl rfl (by decide) ?_)) | (refine k_store ?_; (refine o_store0 rfl rfl rfl rfl rfl rfl ?_)) | (refine k_alloc ?_; (refine o_does (d_alloc rfl rfl (by decide)) ?_)) | (refine k_build ?_; (refine o_build rfl rfl rfl rfl rfl rfl rfl (by decide) ?_)))) | (refine k_ops ?_; (first | refine o_go (by first | exact .inl rfl | exact .inr ⟨_, _, _, rfl, rfl, rfl⟩) ?_ | refine o_nil ?_)) | (refine k_run ?_; (first | refine r_seq ?_ | refine r_region ?_ | refine r_skip ?_ | refine r_block ?_ | refine r_if rfl (fun _ => ?_) (fun _ => ?_))))
    all_goals try (exfalso; omega)
    all_goals exact r_ret Tryd.func14 _ (res_cell_two rfl rfl rfl rfl rfl rfl rfl rfl) ⟨rfl, rfl⟩
  rw [parseS, if_neg h200]
  repeat' (first | (refine k_op1 ?_; (first | refine o_sv rfl (by decide) ?_ | (refine k_blt ?_; (refine o_val (v_lens rfl) rfl rfl (by decide) ?_)) | (refine k_store ?_; (refine o_store0 rfl rfl rfl rfl rfl rfl ?_)) | (refine k_alloc ?_; (refine o_does (d_alloc rfl rfl (by decide)) ?_)) | (refine k_build ?_; (refine o_build rfl rfl rfl rfl rfl rfl rfl (by decide) ?_)))) | (refine k_ops ?_; (first | refine o_go (by first | exact .inl rfl | exact .inr ⟨_, _, _, rfl, rfl, rfl⟩) ?_ | refine o_nil ?_)) | (refine k_run ?_; (first | refine r_seq ?_ | refine r_region ?_ | refine r_skip ?_ | refine r_block ?_ | refine r_if rfl (fun _ => ?_) (fun _ => ?_))))
  all_goals try (exfalso; omega)
  obtain ⟨L, hL⟩ : ∃ L, unF 0 (rst s 0) = L := ⟨_, rfl⟩
  have hLl : L.length ≤ s.size := by rw [← hL, unF_len]; have := rst_len s _ 0 (Nat.le_refl _); omega
  rw [hL]
  refine r_loop ?_
  refine r_less (r_inv (fun q : Nat => ⟨66, [(0, S s), (2, .ptr (0, 2) 0), (5, I .i64 (q : Nat))], [(2, .box (zeroP [Value.int .i64 0, Value.int .i64 0, Value.int .i64 0, nilS, nilS]))], H⟩)
    (fun q => q ≤ L.length ∧ (L.drop q).find? isBad = L.find? isBad) (fun q => L.length - q) ?_ 0 ⟨Nat.zero_le _, rfl⟩) rfl rfl
  intro q ⟨i1, i2⟩ ih
  have hat := at_s s hs q (by omega)
  rw [atR, hL] at hat
  by_cases hlt : q < L.length
  · obtain ⟨u, hu⟩ : ∃ u, L[q]? = some u := ⟨_, List.getElem?_eq_getElem hlt⟩
    rw [hu] at hat
    simp only at hat
    rw [drop_cons hu, List.find?_cons] at i2
    cases hb : isBad u with
    | true =>
      rw [hb] at i2
      simp only at i2
      rw [← i2]
      simp only [isBad, Bool.and_eq_true, decide_eq_true_eq] at hb
      obtain ⟨hb1, hb2⟩ := hb
      simp only
      rw [nil_mk]
      repeat' (first | (refine k_op1 ?_; (first | refine o_sv rfl (by decide) ?_ | (refine k_bin ?_; (refine o_val (v_add (wi64 (by omega) (by omega))) rfl rfl (by decide) ?_)) | (refine k_call ?_; (refine o_fn hat rfl (by decide) ?_)) | (refine k_store ?_; (refine o_store0 rfl rfl rfl rfl rfl rfl ?_)) | (refine k_build ?_; (refine o_build rfl rfl rfl rfl rfl rfl rfl (by decide) ?_)))) | (refine k_ops ?_; (first | refine o_go (by first | exact .inl rfl | exact .inr ⟨_, _, _, rfl, rfl, rfl⟩) ?_ | refine o_nil ?_ | refine o_no rfl rfl (by decide) ?_ | refine o_casep rfl rfl (fun _ => ?_) (fun _ => ?_))) | (refine k_run ?_; (first | refine r_seq ?_ | refine r_region ?_ | refine r_false rfl ?_ | refine r_skip ?_ | refine r_block ?_ | refine r_inBlock ?_ | refine r_if rfl (fun _ => ?_) (fun _ => ?_))))
      all_goals try (exfalso; omega)
      all_goals exact r_ret Tryd.func14 _ (res_cell_two rfl rfl rfl rfl rfl rfl rfl rfl) ⟨rfl, rfl⟩
    | false =>
      rw [hb] at i2
      simp only at i2
      have hnb : ¬ (u.1 = 65533 ∧ u.2.2 = 1) := fun h => by
        simp only [isBad, h.1, h.2] at hb; simp at hb
      repeat' (first | (refine k_op1 ?_; (first | refine o_sv rfl (by decide) ?_ | (refine k_bin ?_; (refine o_val (v_add (wi64 (by omega) (by omega))) rfl rfl (by decide) ?_)) | (refine k_call ?_; (refine o_fn hat rfl (by decide) ?_)) | (refine k_store ?_; (refine o_store0 rfl rfl rfl rfl rfl rfl ?_)) | (refine k_build ?_; (refine o_build rfl rfl rfl rfl rfl rfl rfl (by decide) ?_)))) | (refine k_ops ?_; (first | refine o_go (by first | exact .inl rfl | exact .inr ⟨_, _, _, rfl, rfl, rfl⟩) ?_ | refine o_nil ?_ | refine o_no rfl rfl (by decide) ?_ | refine o_casep rfl rfl (fun _ => ?_) (fun _ => ?_))) | (refine k_run ?_; (first | refine r_seq ?_ | refine r_region ?_ | refine r_false rfl ?_ | refine r_skip ?_ | refine r_block ?_ | refine r_inBlock ?_ | refine r_if rfl (fun _ => ?_) (fun _ => ?_))))
      all_goals try (exfalso; omega)
      all_goals exact r_less (ih (q + 1) ⟨by omega, i2⟩ (by omega)) rfl rfl
  · obtain rfl : q = L.length := by omega
    rw [List.getElem?_eq_none (Nat.le_refl _)] at hat
    simp only at hat
    rw [List.drop_length, List.find?_nil] at i2
    rw [← i2]
    simp only
    clear ih
    have hil := rst_len s _ 0 (Nat.le_refl _)
    obtain ⟨N, hN⟩ : ∃ N, 4 * (rst s 0).length + 4 = N := ⟨_, rfl⟩
    have hne := (p_no N).1 [] (rst s 0) (by omega)
    have hu := parts_s (X := 10) (by decide) (by decide) τ s hs N 0 (Nat.zero_le _) 0 hne
    have hsf := (p_sfx N).1 [] (rst s 0)
    have hsz := (p_sz N).1 [] (rst s 0)
    have hrs := (p_rs 1000001 N).1 [] (rst s 0)
    rcases hp : pU N [] (rst s 0) with ⟨e, r⟩ | ⟨a, b⟩ | _
    · rw [hp] at hu hsf hsz hrs
      obtain ⟨j, hj1, hj, rfl⟩ := rst_sfx s _ 0 r (Nat.le_refl _) (Nat.zero_le _) hsf
      have hsz := hsz e _ rfl
      have hrs := hrs e _ (by omega) (by rw [rsBL]; trivial) rfl
      simp only [szL] at hsz
      have hfit : fit e := (fit_of 3000000 (by decide)).1 e (by omega) (rsB_le (C := 1000001) (D := 3000000) (by decide) hrs)
      have hv := validate_s e hfit
      rw [bk_ok hj] at hu
      obtain ⟨op, mn, mx, rs, ks⟩ := e
      rw [rsOf, eX_mk] at hu
      rw [show Drx (.mk op mn mx rs ks) = .agg (rx5 op mn mx rs ks) from eX_mk op mn mx rs ks] at hv
      by_cases hjl : j < s.size
      · have hq : parseU s.size (rst s 0) = (nil0, (j : Int), 3) := by
          have hsj := rst_size hj
          rw [parseU, hN, hp, rst_lt hjl]
          simp only
          rw [← rst_lt hjl, hsj]
          simp; omega
        have hf := fail_s (X := 10) s (I .i64 (j : Nat)) (j : Nat) 3 0 (by decide)
        rw [hq, nil_mk]
        repeat' (first | (refine k_op1 ?_; (first | refine o_sv rfl (by decide) ?_ | (refine k_load ?_; (first | refine o_val (v_load rfl rfl rfl rfl) rfl rfl (by decide) ?_ | refine o_val (v_loadp rfl rfl rfl rfl) rfl rfl (by decide) ?_)) | (refine k_field ?_; (refine o_val (v_field rfl rfl) rfl rfl (by decide) ?_)) | (refine k_blt ?_; (refine o_val (v_lens rfl) rfl rfl (by decide) ?_)) | (refine k_call ?_; (first | refine o_effot hu rfl rfl (bkT hT) (by decide) ?_ | refine o_fn hat rfl (by decide) ?_ | refine o_eff1 hf rfl rfl (by decide) ?_)) | (refine k_store ?_; (refine o_store0 rfl rfl rfl rfl rfl rfl ?_)) | (refine k_alloc ?_; (refine o_does (d_alloc rfl rfl (by decide)) ?_)) | (refine k_build ?_; (refine o_build rfl rfl rfl rfl rfl rfl rfl (by decide) ?_)))) | (refine k_ops ?_; (first | refine o_go (by first | exact .inl rfl | exact .inr ⟨_, _, _, rfl, rfl, rfl⟩) ?_ | refine o_nil ?_)) | (refine k_run ?_; (first | refine r_seq ?_ | refine r_region ?_ | refine r_true rfl ?_ | refine r_false rfl ?_ | refine r_skip ?_ | refine r_block ?_ | refine r_tr ?_ | refine r_if rfl (fun _ => ?_) (fun _ => ?_) | refine r_exit rfl ?_)) | (refine k_tr ?_; (first | (refine kt_end ?_; refine t_end mix (by kernel_rfl) ?_) | refine t_sv rfl (by first | exact rfl | exact ⟨_, rfl, rfl, rfl⟩) (by decide) ?_ | (refine kt_load ?_; (refine t_val (v_load rfl rfl rfl rfl) (by first | exact rfl | exact ⟨_, rfl, rfl, rfl⟩) rfl rfl (by decide) ?_)) | (refine kt_field ?_; (refine t_val (v_field rfl rfl) (by first | exact rfl | exact ⟨_, rfl, rfl, rfl⟩) rfl rfl (by decide) ?_)) | (refine kt_store ?_; (refine t_store0 (by first | exact rfl | exact ⟨_, rfl, rfl, rfl⟩) rfl rfl rfl rfl rfl rfl ?_)) | (refine kt_build ?_; (refine t_build (by first | exact rfl | exact ⟨_, rfl, rfl, rfl⟩) rfl rfl rfl rfl rfl rfl rfl (by decide) ?_)))))
        all_goals try (exfalso; omega)
        all_goals exact r_ret Tryd.func14 _ (res_cell_two rfl rfl rfl rfl rfl rfl rfl rfl) ⟨rfl, rfl⟩
      · have hq : parseU s.size (rst s 0) = if val (.mk op mn mx rs ks) ≠ 0 then (nil0, 0, 2) else (.mk op mn mx rs ks, 0, 0) := by
          rw [parseU, hN, hp, rst_ge (by omega)]
        rw [hq]
        by_cases hv0 : val (.mk op mn mx rs ks) ≠ 0
        · rw [if_pos hv0, nil_mk]
          repeat' (first | (refine k_op1 ?_; (first | refine o_sv rfl (by decide) ?_ | (refine k_load ?_; (first | refine o_val (v_load rfl rfl rfl rfl) rfl rfl (by decide) ?_ | refine o_val (v_loadp rfl rfl rfl rfl) rfl rfl (by decide) ?_)) | (refine k_field ?_; (refine o_val (v_field rfl rfl) rfl rfl (by decide) ?_)) | (refine k_blt ?_; (refine o_val (v_lens rfl) rfl rfl (by decide) ?_)) | (refine k_call ?_; (first | refine o_effot hu rfl rfl (bkT hT) (by decide) ?_ | refine o_fn hat rfl (by decide) ?_ | refine o_fn hv rfl (by decide) ?_)) | (refine k_store ?_; (refine o_store0 rfl rfl rfl rfl rfl rfl ?_)) | (refine k_alloc ?_; (refine o_does (d_alloc rfl rfl (by decide)) ?_)) | (refine k_build ?_; (refine o_build rfl rfl rfl rfl rfl rfl rfl (by decide) ?_)))) | (refine k_ops ?_; (first | refine o_go (by first | exact .inl rfl | exact .inr ⟨_, _, _, rfl, rfl, rfl⟩) ?_ | refine o_nil ?_)) | (refine k_run ?_; (first | refine r_seq ?_ | refine r_region ?_ | refine r_true rfl ?_ | refine r_false rfl ?_ | refine r_skip ?_ | refine r_block ?_ | refine r_if rfl (fun _ => ?_) (fun _ => ?_) | refine r_ifn rfl (fun _ => ?_) (fun _ => ?_) | refine r_exit rfl ?_)))
          all_goals try (exfalso; omega)
          all_goals exact r_ret Tryd.func14 _ (res_cell_two rfl rfl rfl rfl rfl rfl rfl rfl) ⟨rfl, rfl⟩
        · rw [if_neg hv0, eX_mk]
          have hv1 : val (.mk op mn mx rs ks) = 0 := Classical.not_not.1 hv0
          rw [hv1] at hv
          repeat' (first | (refine k_op1 ?_; (first | refine o_sv rfl (by decide) ?_ | (refine k_load ?_; (first | refine o_val (v_load rfl rfl rfl rfl) rfl rfl (by decide) ?_ | refine o_val (v_loadp rfl rfl rfl rfl) rfl rfl (by decide) ?_)) | (refine k_field ?_; (refine o_val (v_field rfl rfl) rfl rfl (by decide) ?_)) | (refine k_blt ?_; (refine o_val (v_lens rfl) rfl rfl (by decide) ?_)) | (refine k_call ?_; (first | refine o_effot hu rfl rfl (bkT hT) (by decide) ?_ | refine o_fn hat rfl (by decide) ?_ | refine o_fn hv rfl (by decide) ?_)) | (refine k_store ?_; (refine o_store0 rfl rfl rfl rfl rfl rfl ?_)) | (refine k_alloc ?_; (refine o_does (d_alloc rfl rfl (by decide)) ?_)) | (refine k_build ?_; (refine o_build rfl rfl rfl rfl rfl rfl rfl (by decide) ?_)))) | (refine k_ops ?_; (first | refine o_go (by first | exact .inl rfl | exact .inr ⟨_, _, _, rfl, rfl, rfl⟩) ?_ | refine o_nil ?_)) | (refine k_run ?_; (first | refine r_seq ?_ | refine r_region ?_ | refine r_true rfl ?_ | refine r_false rfl ?_ | refine r_skip ?_ | refine r_block ?_ | refine r_if rfl (fun _ => ?_) (fun _ => ?_) | refine r_exit rfl ?_)))
          all_goals try (exfalso; omega)
          all_goals exact r_ret Tryd.func14 _ (res_cell_two rfl rfl rfl rfl rfl rfl rfl rfl) ⟨rfl, rfl⟩
    · rw [hp] at hu hsf
      have hq : parseU s.size (rst s 0) = (nil0, (s.size : Int) - bts a, b) := by rw [parseU, hN, hp]
      obtain ⟨j, hj1, hj, rfl⟩ := rst_sfx s _ 0 a (Nat.le_refl _) (Nat.zero_le _) hsf
      have hsj := rst_size hj
      rw [bk_err hj] at hu
      rw [hq, hsj, show (s.size : Int) - ((s.size - j : Nat) : Int) = (j : Nat) by omega, nil_mk]
      rw [rsOf, nil_mk] at hu
      repeat' (first | (refine k_op1 ?_; (first | refine o_sv rfl (by decide) ?_ | (refine k_call ?_; (first | refine o_effot hu rfl rfl (bkT hT) (by decide) ?_ | refine o_fn hat rfl (by decide) ?_)) | (refine k_store ?_; (refine o_store0 rfl rfl rfl rfl rfl rfl ?_)) | (refine k_alloc ?_; (refine o_does (d_alloc rfl rfl (by decide)) ?_)) | (refine k_build ?_; (refine o_build rfl rfl rfl rfl rfl rfl rfl (by decide) ?_)))) | (refine k_ops ?_; (first | refine o_go (by first | exact .inl rfl | exact .inr ⟨_, _, _, rfl, rfl, rfl⟩) ?_ | refine o_nil ?_ | refine o_no rfl rfl (by decide) ?_)) | (refine k_run ?_; (first | refine r_seq ?_ | refine r_region ?_ | refine r_true rfl ?_ | refine r_false rfl ?_ | refine r_skip ?_ | refine r_block ?_ | refine r_tr ?_ | refine r_exit rfl ?_)) | (refine k_tr ?_; (first | (refine kt_end ?_; refine t_end mix (by kernel_rfl) ?_) | refine t_sv rfl (by first | exact rfl | exact ⟨_, rfl, rfl, rfl⟩) (by decide) ?_ | (refine kt_load ?_; (refine t_val (v_load rfl rfl rfl rfl) (by first | exact rfl | exact ⟨_, rfl, rfl, rfl⟩) rfl rfl (by decide) ?_)) | (refine kt_field ?_; (refine t_val (v_field rfl rfl) (by first | exact rfl | exact ⟨_, rfl, rfl, rfl⟩) rfl rfl (by decide) ?_)) | (refine kt_store ?_; (refine t_store0 (by first | exact rfl | exact ⟨_, rfl, rfl, rfl⟩) rfl rfl rfl rfl rfl rfl ?_)) | (refine kt_build ?_; (refine t_build (by first | exact rfl | exact ⟨_, rfl, rfl, rfl⟩) rfl rfl rfl rfl rfl rfl rfl (by decide) ?_)))))
      all_goals try (exfalso; omega)
      all_goals exact r_ret Tryd.func14 _ (res_cell_two rfl rfl rfl rfl rfl rfl rfl rfl) ⟨rfl, rfl⟩
    · exact absurd hp hne
end Go.Proofs.YtjmbjgecfpggdaaDoor
