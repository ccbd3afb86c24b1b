/- A law holds for every input; no condition. -/
import Derived.Test.YtlgdilkmcfpjjaaWm
import Derived.Test.YtlgdilkmcfpjjaaFe
set_option linter.all false
set_option linter.unusedVariables false
set_option linter.unusedSimpArgs false
namespace Go.Proofs.Ytlgdilkmcfpjjaa
open Go.Ab Go.Srt
set_option maxHeartbeats 20000000
set_option linter.unusedVariables false
set_option linter.unusedSimpArgs false
attribute [local irreducible] Run Ops Op1 Does Val Tr PureF Eff1 NF Rel EffV

/-- the block of a bit reader -/
def rbox (b : List Int) (n pos : Nat) : Blk := .box [.d (bytesL b), I .i64 (n : Nat), I .i64 (pos : Nat)]
theorem rsize_s (b : List Int) (n pos j : Nat) : Eff1 Try.prog 48 [.ptr (j, 500) 0] [((j, 500), rbox b n pos)] [] (I .i64 (n : Nat)) := by
  refine eff_of fun H hH => ?_
  have hH0 := hH ((j, 500), rbox b n pos) (by simp)
  refine spec_of Try.func48 (by kernel_rfl) rfl (by simp) ?_
  dsimp only [Try.f48]
  repeat' (first | (refine k_op1 ?_; (first | refine o_sv rfl (by decide) ?_ | (refine k_load ?_; (refine o_val (v_load (b := rbox b n pos) rfl rfl rfl rfl) rfl (bk1 hH0) (by decide) ?_)) | (refine k_field ?_; (refine o_val (v_field rfl rfl) rfl rfl (by decide) ?_)))) | (refine k_ops ?_; (first | refine o_go (by first | exact .inl rfl | exact .inr ⟨_, _, _, rfl, rfl, rfl⟩) ?_ | refine o_nil ?_)) | (refine k_run ?_; (first | refine r_seq ?_ | refine r_region ?_)))
  exact r_ret Try.func48 _ (res_one rfl rfl) ⟨rfl, rfl⟩
theorem rpos_s (b : List Int) (n pos j : Nat) : Eff1 Try.prog 39 [.ptr (j, 500) 0] [((j, 500), rbox b n pos)] [] (I .i64 (pos : Nat)) := by
  refine eff_of fun H hH => ?_
  have hH0 := hH ((j, 500), rbox b n pos) (by simp)
  refine spec_of Try.func39 (by kernel_rfl) rfl (by simp) ?_
  dsimp only [Try.f39]
  repeat' (first | (refine k_op1 ?_; (first | refine o_sv rfl (by decide) ?_ | (refine k_load ?_; (refine o_val (v_load (b := rbox b n pos) rfl rfl rfl rfl) rfl (bk1 hH0) (by decide) ?_)) | (refine k_field ?_; (refine o_val (v_field rfl rfl) rfl rfl (by decide) ?_)))) | (refine k_ops ?_; (first | refine o_go (by first | exact .inl rfl | exact .inr ⟨_, _, _, rfl, rfl, rfl⟩) ?_ | refine o_nil ?_)) | (refine k_run ?_; (first | refine r_seq ?_ | refine r_region ?_)))
  exact r_ret Try.func39 _ (res_one rfl rfl) ⟨rfl, rfl⟩
/-- a bit of some bytes -/
def bitv (b : List Int) (i : Nat) : Int := andV .u64 (shrV .u8 (b.getD (i / 8) 0) (7 - ((i % 8 : Nat) : Int))) 1
theorem shr8 {x y : Int} (h0 : 0 ≤ x) (h1 : x < 256) : 0 ≤ shrV .u8 x y ∧ shrV .u8 x y < 256 := by
  rw [shrV, Int.fdiv_eq_ediv_of_nonneg _ (Int.pow_nonneg (by omega))]
  refine ⟨Int.ediv_nonneg h0 (Int.pow_nonneg (by omega)), ?_⟩
  have := Int.ediv_le_self (2 ^ (min y.toNat IntKind.u8.bits)) h0
  omega
theorem bit_s (b : List Int) (n pos i j : Nat) (hi : i / 8 < b.length) (hb : ∀ x ∈ b, 0 ≤ x ∧ x < 256) (hs : i ≤ 1000000) : Eff1 Try.prog 59 [.ptr (j, 500) 0, I .i64 (i : Nat)] [((j, 500), rbox b n pos)] [] (I .u64 (bitv b i)) := by
  refine eff_of fun H hH => ?_
  have hH0 := hH ((j, 500), rbox b n pos) (by simp)
  refine spec_of Try.func59 (by kernel_rfl) rfl (by simp) ?_
  dsimp only [Try.f59]
  obtain ⟨x, hx⟩ : ∃ x, b[i / 8]? = some x := ⟨_, List.getElem?_eq_getElem hi⟩
  have hxr := hb x (List.mem_of_getElem? hx)
  have h8 := shr8 (y := 7 - ((i % 8 : Nat) : Int)) hxr.1 hxr.2
  repeat' (first | (refine k_op1 ?_; (first | refine o_sv rfl (by decide) ?_ | (refine k_load ?_; (first | refine o_val (v_load (b := rbox b n pos) rfl rfl rfl rfl) rfl (bk1 hH0) (by decide) ?_ | refine o_val (v_loade rfl rfl rfl) rfl rfl (by decide) ?_)) | (refine k_field ?_; (refine o_val (v_field rfl rfl) rfl rfl (by decide) ?_)) | (refine k_index ?_; (refine o_val (v_index rfl (by omega) (idx hx) rfl) rfl rfl (by decide) ?_)) | (refine k_bin ?_; (first | refine o_val (v_and7 (by omega)) rfl rfl (by decide) ?_ | refine o_val v_shr3 rfl rfl (by decide) ?_ | refine o_val (v_shr (by omega)) rfl rfl (by decide) ?_ | refine o_val v_band rfl rfl (by decide) ?_ | refine o_val (v_sub (wi64 (by omega) (by omega))) rfl rfl (by decide) ?_)) | (refine k_conv ?_; (refine o_val (v_conv rfl rfl (wu64 (by omega) (by omega))) rfl rfl (by decide) ?_)))) | (refine k_ops ?_; (first | refine o_go (by first | exact .inl rfl | exact .inr ⟨_, _, _, rfl, rfl, rfl⟩) ?_ | refine o_nil ?_)) | (refine k_run ?_; (first | refine r_seq ?_ | refine r_region ?_)))
  refine r_ret Try.func59 _ (res_one rfl rfl) ⟨?_, rfl⟩
  rw [bitv, getD_some hx]
theorem and1 (x : Int) : andV .u64 x 1 = 0 ∨ andV .u64 x 1 = 1 := by
  have e2 : (BitVec.ofInt IntKind.u64.bits (1 : Int)).toNat = 1 := rfl
  rw [andV, BitVec.toNat_and, e2, Nat.and_one_is_mod]
  generalize (BitVec.ofInt IntKind.u64.bits x).toNat = m
  have : m % 2 = 0 ∨ m % 2 = 1 := by omega
  rcases this with h | h <;> rw [h]
  · exact .inl rfl
  · exact .inr rfl
theorem bitv01 (b : List Int) (i : Nat) : bitv b i = 0 ∨ bitv b i = 1 := and1 _
theorem or01 {x : Int} (h : x = 0 ∨ x = 1) : orV .u64 (shlV .u64 0 1) x = x := by
  rcases h with rfl | rfl <;> decide +kernel
theorem take1_s (b : List Int) (n pos i j : Nat) (hi : i < n) (hn : n ≤ 8 * b.length) (hb : ∀ x ∈ b, 0 ≤ x ∧ x < 256) (hs : n ≤ 1000000) : Eff1 Try.prog 55 [.ptr (j, 500) 0, I .i64 (i : Nat), I .i64 1] [((j, 500), rbox b n pos)] [] (.tup [I .u64 (bitv b i), B true]) := by
  refine eff_of fun H hH => ?_
  have hH0 := hH ((j, 500), rbox b n pos) (by simp)
  refine spec_of Try.func55 (by kernel_rfl) rfl (by simp) ?_
  dsimp only [Try.f55]
  have h1 := rsize_s b n pos (j + 1)
  have h2 := bit_s b n pos i (j + 1) (by omega) hb (by omega)
  have h01 := or01 (bitv01 b i)
  repeat' (first | (refine k_op1 ?_; (first | refine o_sv rfl (by decide) ?_ | (refine k_field ?_; (refine o_val (v_field rfl rfl) rfl rfl (by decide) ?_)) | (refine k_bin ?_; (refine o_val (v_sub (wi64 (by omega) (by omega))) rfl rfl (by decide) ?_)) | (refine k_call ?_; (refine o_effk h1 rfl (bk1 hH0) (by decide) ?_)))) | (refine k_ops ?_; (first | refine o_go (by first | exact .inl rfl | exact .inr ⟨_, _, _, rfl, rfl, rfl⟩) ?_ | refine o_nil ?_)) | (refine k_run ?_; (first | refine r_seq ?_ | refine r_region ?_ | refine r_skip ?_ | refine r_block ?_ | refine r_if rfl (fun _ => ?_) (fun _ => ?_))))
  all_goals try (exfalso; omega)
  refine r_loop ?_
  refine r_less (r_inv (fun q : Nat => ⟨34, [(0, .ptr (j + 1, 500) 0), (1, I .i64 (i : Nat)), (8, I .u64 (if q = 0 then 0 else bitv b i)), (18, I .i64 1), (19, I .i64 (q : Nat))], [], H⟩) (fun q => q ≤ 1) (fun q => 1 - q) ?_ 0 (by omega)) rfl rfl
  intro q hq ih
  by_cases h0 : q = 0
  · subst h0
    rw [if_pos rfl]
    repeat' (first | (refine k_op1 ?_; (first | refine o_sv rfl (by decide) ?_ | (refine k_field ?_; (refine o_val (v_field rfl rfl) rfl rfl (by decide) ?_)) | (refine k_bin ?_; (first | refine o_val (v_shl (by omega)) rfl rfl (by decide) ?_ | refine o_val v_bor rfl rfl (by decide) ?_ | refine o_val (v_add (wi64 (by omega) (by omega))) rfl rfl (by decide) ?_)) | (refine k_call ?_; (refine o_effk h2 rfl (bk1 hH0) (by decide) ?_)))) | (refine k_ops ?_; (first | refine o_go (by first | exact .inl rfl | exact .inr ⟨_, _, _, rfl, rfl, rfl⟩) ?_ | refine o_nil ?_)) | (refine k_run ?_; (first | refine r_seq ?_ | refine r_region ?_ | refine r_true rfl ?_ | refine r_skip ?_ | refine r_block ?_ | refine r_inBlock ?_)))
    all_goals try (exfalso; omega)
    rw [h01]
    exact r_less (ih 1 (by omega) (by omega)) rfl rfl
  · obtain rfl : q = 1 := by omega
    rw [if_neg (by omega)]
    repeat' (first | (refine k_op1 ?_; (refine o_sv rfl (by decide) ?_)) | (refine k_ops ?_; (first | refine o_go (by first | exact .inl rfl | exact .inr ⟨_, _, _, rfl, rfl, rfl⟩) ?_ | refine o_nil ?_)) | (refine k_run ?_; (first | refine r_seq ?_ | refine r_region ?_ | refine r_false rfl ?_ | refine r_exit rfl ?_)))
    all_goals try (exfalso; omega)
    exact r_ret Try.func55 _ (res_two rfl rfl rfl) ⟨rfl, rfl⟩
theorem take0_s (b : List Int) (n pos i j : Nat) (hi : n ≤ i) (hs : i ≤ 1000000) : Eff1 Try.prog 55 [.ptr (j, 500) 0, I .i64 (i : Nat), I .i64 1] [((j, 500), rbox b n pos)] [] (.tup [I .u64 0, B false]) := by
  refine eff_of fun H hH => ?_
  have hH0 := hH ((j, 500), rbox b n pos) (by simp)
  refine spec_of Try.func55 (by kernel_rfl) rfl (by simp) ?_
  dsimp only [Try.f55]
  have h1 := rsize_s b n pos (j + 1)
  repeat' (first | (refine k_op1 ?_; (first | refine o_sv rfl (by decide) ?_ | (refine k_field ?_; (refine o_val (v_field rfl rfl) rfl rfl (by decide) ?_)) | (refine k_bin ?_; (refine o_val (v_sub (wi64 (by omega) (by omega))) rfl rfl (by decide) ?_)) | (refine k_call ?_; (refine o_effk h1 rfl (bk1 hH0) (by decide) ?_)))) | (refine k_ops ?_; (first | refine o_go (by first | exact .inl rfl | exact .inr ⟨_, _, _, rfl, rfl, rfl⟩) ?_ | refine o_nil ?_)) | (refine k_run ?_; (first | refine r_seq ?_ | refine r_region ?_ | refine r_skip ?_ | refine r_block ?_ | refine r_if rfl (fun _ => ?_) (fun _ => ?_))))
  all_goals try (exfalso; omega)
  exact r_ret Try.func55 _ (res_two rfl rfl rfl) ⟨rfl, rfl⟩
end Go.Proofs.Ytlgdilkmcfpjjaa
namespace Go.Proofs.Ytlgdilkmcfpjjaa
open Go.Ab Go.Srt
set_option maxHeartbeats 20000000
set_option linter.unusedVariables false
set_option linter.unusedSimpArgs false
attribute [local irreducible] Run Ops Op1 Does Val Tr PureF Eff1 NF Rel EffV

theorem bits1_s (b : List Int) (n pos : Nat) (hi : pos < n) (hn : n ≤ 8 * b.length) (hb : ∀ x ∈ b, 0 ≤ x ∧ x < 256) (hs : n ≤ 1000000) : Eff1 Try.prog 49 [.ptr (0, 500) 0, I .i64 1] [((0, 500), rbox b n pos)] [((0, 500), rbox b n (pos + 1))] (.tup [I .u64 (bitv b pos), I .i64 0]) := by
  refine eff_of fun H hH => ?_
  have hH0 := hH ((0, 500), rbox b n pos) (by simp)
  refine spec_of Try.func49 (by kernel_rfl) rfl (by simp) ?_
  dsimp only [Try.f49]
  have h1 := take1_s b n pos pos 0 hi hn hb hs
  refine r_take 500 0 500 hH0 rfl rfl ?_
  repeat' (first | (refine k_op1 ?_; (first | refine o_sv rfl (by decide) ?_ | (refine k_load ?_; (refine o_val (v_load rfl rfl rfl rfl) rfl rfl (by decide) ?_)) | (refine k_field ?_; (refine o_val (v_field rfl rfl) rfl rfl (by decide) ?_)) | (refine k_bin ?_; (refine o_val (v_add (wi64 (by omega) (by omega))) rfl rfl (by decide) ?_)) | (refine k_call ?_; (refine o_effk h1 rfl (bk1 rfl) (by decide) ?_)) | (refine k_store ?_; (refine o_store0 rfl rfl rfl rfl rfl rfl ?_)))) | (refine k_ops ?_; (first | refine o_go (by first | exact .inl rfl | exact .inr ⟨_, _, _, rfl, rfl, rfl⟩) ?_ | refine o_nil ?_)) | (refine k_run ?_; (first | refine r_seq ?_ | refine r_region ?_ | refine r_false rfl ?_ | refine r_skip ?_)))
  all_goals try (exfalso; omega)
  refine r_give 500 0 500 (raw := rbox b n (pos + 1)) rfl rfl rfl rfl rfl ?_
  exact r_ret Try.func49 _ (res_two rfl rfl rfl) ⟨rfl, (upd_upd _ _ _ _).trans rfl⟩
theorem bits0_s (b : List Int) (n pos : Nat) (hi : n ≤ pos) (hs : pos ≤ 1000000) : Eff1 Try.prog 49 [.ptr (0, 500) 0, I .i64 1] [((0, 500), rbox b n pos)] [] (.tup [I .u64 0, I .i64 10]) := by
  refine eff_of fun H hH => ?_
  have hH0 := hH ((0, 500), rbox b n pos) (by simp)
  refine spec_of Try.func49 (by kernel_rfl) rfl (by simp) ?_
  dsimp only [Try.f49]
  have h1 := take0_s b n pos pos 1 hi hs
  repeat' (first | (refine k_op1 ?_; (first | refine o_sv rfl (by decide) ?_ | (refine k_load ?_; (refine o_val (v_load (b := rbox b n pos) rfl rfl rfl rfl) rfl (bk1 hH0) (by decide) ?_)) | (refine k_field ?_; (refine o_val (v_field rfl rfl) rfl rfl (by decide) ?_)) | (refine k_call ?_; (refine o_effk h1 rfl (bk1 hH0) (by decide) ?_)))) | (refine k_ops ?_; (first | refine o_go (by first | exact .inl rfl | exact .inr ⟨_, _, _, rfl, rfl, rfl⟩) ?_ | refine o_nil ?_)) | (refine k_run ?_; (first | refine r_seq ?_ | refine r_region ?_ | refine r_true rfl ?_ | refine r_false rfl ?_ | refine r_skip ?_)))
  all_goals try (exfalso; omega)
  exact r_ret Try.func49 _ (res_two rfl rfl rfl) ⟨rfl, rfl⟩
theorem newr_bad (b : List Int) (n : Int) (h : n < 0 ∨ 8 * b.length < n) (hl : b.length ≤ 100000) : PureF Try.prog 36 [.d (bytesL b), I .i64 n] (.tup [.d (.lit (.pointer none)), I .i64 1]) := by
  refine pure_of fun H => ?_
  refine spec_of Try.func36 (by kernel_rfl) rfl (by simp) ?_
  dsimp only [Try.f36]
  repeat' (first | (refine k_op1 ?_; (first | refine o_sv rfl (by decide) ?_ | (refine k_bin ?_; (first | refine o_val (v_mul (wi64 (by omega) (by omega))) rfl rfl (by decide) ?_ | refine o_val (v_add (wi64 (by omega) (by omega))) rfl rfl (by decide) ?_)) | (refine k_blt ?_; (refine o_val (v_lenm rfl) rfl rfl (by decide) ?_)) | (refine k_lit ?_; (refine o_lit rfl rfl rfl rfl rfl rfl rfl rfl (by decide) ?_)))) | (refine k_ops ?_; (first | refine o_go (by first | exact .inl rfl | exact .inr ⟨_, _, _, rfl, rfl, rfl⟩) ?_ | refine o_nil ?_ | refine o_no rfl rfl (by decide) ?_ | refine o_casep rfl rfl (fun _ => ?_) (fun _ => ?_))) | (refine k_run ?_; (first | refine r_seq ?_ | refine r_region ?_ | refine r_true rfl ?_ | refine r_skip ?_ | refine r_if rfl (fun _ => ?_) (fun _ => ?_))))
  all_goals try (exfalso; omega)
  all_goals exact r_ret Try.func36 _ (res_two rfl rfl rfl) ⟨rfl, rfl⟩
end Go.Proofs.Ytlgdilkmcfpjjaa
namespace Go.Proofs.Ytlgdilkmcfpjjaa
open Go.Ab Go.Srt
set_option maxHeartbeats 20000000
set_option linter.unusedVariables false
set_option linter.unusedSimpArgs false
attribute [local irreducible] Run Ops Op1 Does Val Tr PureF Eff1 NF Rel EffV

theorem newr_s (b : List Int) (n : Nat) (h : n ≤ 8 * b.length) (hl : b.length ≤ 100000) : ∀ H, Ab.Spec Try.prog 36 [.d (bytesL b), I .i64 (n : Nat)] H (fun r H' => r = .newT (rbox (b.take ((n + 7) / 8)) n 0) [.d (.lit (.int .i64 0))] ∧ H' = H) := by
  intro H
  refine spec_of Try.func36 (by kernel_rfl) rfl (by simp) ?_
  dsimp only [Try.f36]
  have hq : (((n : Nat) : Int) + 7) / 8 = (((n + 7) / 8 : Nat) : Int) := by omega
  repeat' (first | (refine k_op1 ?_; (first | refine o_sv rfl (by decide) ?_ | (refine k_bin ?_; (first | refine o_val (v_mul (wi64 (by omega) (by omega))) rfl rfl (by decide) ?_ | refine o_val (v_quo (by omega) (by decide) (wi64 (by omega) (by omega))) rfl rfl (by decide) ?_ | refine o_val (v_add (wi64 (by omega) (by omega))) rfl rfl (by decide) ?_)) | (refine k_slice ?_; (refine o_val (v_slicetm (q := b) (g := fun x => [Du8 x]) rfl (by omega) (by omega) (fun _ => rfl)) rfl rfl (by decide) ?_)) | (refine k_blt ?_; (first | (refine o_apps (q := ([] : List Int)) (r := b.take ((((n : Nat) : Int) + 7) / 8).toNat) (g := fun x : Int => [Du8 x]) rfl rfl rfl rfl rfl (fun _ => rfl) (by decide) rfl (by decide) (by rw [List.length_take]; simp; omega) ?_; refine o_freeze 21 rfl ?_) | refine o_val (v_lenm rfl) rfl rfl (by decide) ?_)) | (refine k_box ?_; (refine o_does (d_box_d rfl rfl (by decide)) ?_)) | (refine k_build ?_; (refine o_build rfl rfl rfl rfl rfl rfl rfl (by decide) ?_)) | (refine k_lit ?_; (refine o_lito rfl rfl rfl rfl rfl rfl rfl rfl rfl (by decide) ?_)))) | (refine k_ops ?_; (first | refine o_go (by first | exact .inl rfl | exact .inr ⟨_, _, _, rfl, rfl, rfl⟩) ?_ | refine o_nil ?_)) | (refine k_run ?_; (first | refine r_seq ?_ | refine r_region ?_ | refine r_skip ?_ | refine r_if rfl (fun _ => ?_) (fun _ => ?_))))
  all_goals try (exfalso; omega)
  have e : ((((n : Nat) : Int) + 7) / 8).toNat = (n + 7) / 8 := by omega
  refine r_ret Try.func36 _ (res_newT (qs := [.d (bytesL (b.take ((((n : Nat) : Int) + 7) / 8).toNat)), I .i64 (n : Nat), I .i64 0]) rfl rfl rfl rfl rfl) ⟨?_, rfl⟩
  rw [e]; rfl
end Go.Proofs.Ytlgdilkmcfpjjaa
namespace Go.Proofs.Ytlgdilkmcfpjjaa
open Go.Ab Go.Srt
set_option maxHeartbeats 20000000
set_option linter.unusedVariables false
set_option linter.unusedSimpArgs false
attribute [local irreducible] Run Ops Op1 Does Val Tr PureF Eff1 NF Rel EffV

/-- a bit of bytes, as the reference reads it -/
def ubit (b : List Int) (i : Nat) : Bool := !decide (andV .u8 (b.getD (i / 8) 0) (shrV .u8 128 ((i % 8 : Nat) : Int)) = 0)
def unpk (b : List Int) (N : Nat) : List Bool := (List.range N).map (ubit b)
theorem unpk_succ (b : List Int) (k : Nat) : unpk b (k + 1) = unpk b k ++ [ubit b k] := by rw [unpk, List.range_succ, List.map_append]; rfl
theorem unpack_s (b : List Int) (N : Nat) (hbl : b.length ≤ 100000) (hN : N ≤ 8 * b.length) : PureF Try.prog 40 [.d (bytesL b), I .i64 (N : Nat)] (.d (bools (unpk b N))) := by
  refine pure_of fun H => ?_
  refine spec_of Try.func40 (by kernel_rfl) rfl (by simp) ?_
  dsimp only [Try.f40]
  repeat' (first | (refine k_op1 ?_; (refine o_sv rfl (by decide) ?_)) | (refine k_ops ?_; (first | refine o_go (by first | exact .inl rfl | exact .inr ⟨_, _, _, rfl, rfl, rfl⟩) ?_ | refine o_nil ?_)) | (refine k_run ?_; (first | refine r_seq ?_ | refine r_region ?_ | refine r_block ?_)))
  refine r_slot_row 5 1000 4 1 rfl (by decide) rfl ?_
  refine r_loop ?_
  refine r_less (r_inv (fun k : Nat => ⟨27, [(0, .d (bytesL b)), (1, I .i64 (N : Nat)), (5, .ref (0, 1000)), (6, I .i64 (k : Nat))], [(1000, .row 4 1 ((unpk b k).map fun x => [Dbool x]))], H⟩)
    (fun k => k ≤ N) (fun k => N - k) ?_ 0 (Nat.zero_le _)) rfl rfl
  intro k hk ih
  by_cases hlt : k < N
  · obtain ⟨z, hz⟩ : ∃ z, b[k / 8]? = some z := ⟨_, List.getElem?_eq_getElem (by omega)⟩
    have hg : b.getD (k / 8) 0 = z := by simp [List.getD, hz]
    have hl : (unpk b k).length = k := by simp [unpk]
    repeat' (first | (refine k_op1 ?_; (first | refine o_sv rfl (by decide) ?_ | (refine k_load ?_; (refine o_val (v_loade rfl rfl rfl) rfl rfl (by decide) ?_)) | (refine k_index ?_; (refine o_val (v_index (ys := b.map fun x => [Du8 x]) rfl (by omega) (by rw [List.getElem?_map, show ((k : Int) / 8).toNat = k / 8 by omega, hz]; rfl) rfl) rfl rfl (by decide) ?_)) | (refine k_bin ?_; (first | refine o_val (v_quo (by omega) (by omega) (wi64 (by omega) (by omega))) rfl rfl (by decide) ?_ | refine o_val (v_rem (by omega) (by omega)) rfl rfl (by decide) ?_ | refine o_val (v_shr (by omega)) rfl rfl (by decide) ?_ | refine o_val v_band rfl rfl (by decide) ?_ | refine o_val (v_add (wi64 (by omega) (by omega))) rfl rfl (by decide) ?_)) | (refine k_blt ?_; (refine o_app1 (g := fun x : Bool => [Dbool x]) rfl rfl (!decide (andV .u8 z (shrV .u8 128 ((k : Int) % 8)) = 0)) rfl rfl rfl rfl rfl rfl rfl (by decide) (by omega) ?_)) | (refine k_lit ?_; (refine o_lit rfl rfl rfl rfl rfl rfl rfl rfl (by decide) ?_)) | (refine k_conv ?_; (refine o_val (v_conv rfl rfl (wu64 (by omega) (by omega))) rfl rfl (by decide) ?_)))) | (refine k_ops ?_; (first | refine o_go (by first | exact .inl rfl | exact .inr ⟨_, _, _, rfl, rfl, rfl⟩) ?_ | refine o_nil ?_)) | (refine k_run ?_; (first | refine r_seq ?_ | refine r_region ?_ | refine r_skip ?_ | refine r_block ?_ | refine r_inBlock ?_ | refine r_if rfl (fun _ => ?_) (fun _ => ?_) | refine r_exit rfl ?_)))
    all_goals try (exfalso; omega)
    refine r_ren 25 1000 rfl rfl ?_
    refine r_less (ih (k + 1) (by omega) (by omega)) rfl ?_
    rw [unpk_succ, ubit, hg]
    rfl
  · obtain rfl : k = N := by omega
    repeat' (first | (refine k_op1 ?_; (refine o_sv rfl (by decide) ?_)) | (refine k_ops ?_; (first | refine o_go (by first | exact .inl rfl | exact .inr ⟨_, _, _, rfl, rfl, rfl⟩) ?_ | refine o_nil ?_)) | (refine k_run ?_; (first | refine r_seq ?_ | refine r_region ?_ | refine r_skip ?_ | refine r_block ?_ | refine r_if rfl (fun _ => ?_) (fun _ => ?_) | refine r_exit rfl ?_)))
    all_goals try (exfalso; omega)
    refine r_freeze 1000 rfl ?_
    exact r_ret Try.func40 _ (res_one rfl rfl) ⟨rfl, rfl⟩
end Go.Proofs.Ytlgdilkmcfpjjaa
namespace Go.Proofs.Ytlgdilkmcfpjjaa
open Go.Ab Go.Srt
set_option maxHeartbeats 20000000
set_option linter.unusedVariables false
set_option linter.unusedSimpArgs false
attribute [local irreducible] Run Ops Op1 Does Val Tr PureF Eff1 NF Rel EffV

/-- the last symbol with a code, and whether a code begins so -/
def rsc (v n : Int) (cs : List Int) : List Int → Nat → Int → Bool → Int × Bool
  | [], _, F, A => (F, A)
  | k :: t, s, F, A => rsc v n cs t (s + 1) (if k = n ∧ cs.getD s 0 = v then (s : Int) else F) (A || (decide (n ≤ k) && decide (shrV .u64 (cs.getD s 0) (k - n) = v)))
theorem rsc_alive (v n : Int) (cs : List Int) : ∀ (t : List Int) (s : Nat) (F : Int) (A : Bool), (rsc v n cs t s F A).2 = true → A = true ∨ ∃ k ∈ t, n ≤ k
  | [], s, F, A, h => .inl h
  | k :: t, s, F, A, h => by
    rcases rsc_alive v n cs t (s + 1) _ _ h with h | ⟨x, hx, hn⟩
    · simp only [Bool.or_eq_true, Bool.and_eq_true, decide_eq_true_eq] at h
      rcases h with h | ⟨h, _⟩
      · exact .inl h
      · exact .inr ⟨k, by simp, h⟩
    · exact .inr ⟨x, by simp [hx], hn⟩
/-- a symbol read, as the reference does -/
def rsym (l cs : List Int) (L : List Bool) : Nat → Nat → Int → Nat → Nat × Int × Int
  | 0, a, _, _ => (a, 0, 9)
  | f + 1, a, v, m =>
    if L.length ≤ a then (a, 0, 10) else
    let w := v * 2 + if L.getD a false = true then 1 else 0
    let r := rsc w ((m + 1 : Nat) : Int) cs l 0 (-1) false
    if r.2 = false then (a + 1, 0, 9) else if r.1 < 0 then rsym l cs L f (a + 1) w (m + 1) else (a + 1, r.1, 0)
def rdec (l cs : List Int) (L : List Bool) : Nat → Nat → List Int → List Int × Int × Nat
  | 0, a, acc => (acc, 0, a)
  | c + 1, a, acc => if (rsym l cs L 20 a 0 0).2.2 ≠ 0 then ([], (rsym l cs L 20 a 0 0).2.2, a) else rdec l cs L c (rsym l cs L 20 a 0 0).1 (acc ++ [(rsym l cs L 20 a 0 0).2.1])
def decR (l : List Int) (b : List Int) (bits count : Int) : List Int × Int :=
  if validH l = false ∨ bits < 0 ∨ 8 * (b.length : Int) < bits ∨ count < 0 ∨ 4096 < count then ([], 1) else
  let r := rdec l (codesH l) (unpk b bits.toNat) count.toNat 0 []
  if r.2.1 ≠ 0 then ([], r.2.1) else if r.2.2 < bits.toNat then ([], 9) else (r.1, 0)
theorem rdecode_bad (l b : List Int) (bits count : Int) (hl : l.length ≤ 9223372036854775807) (hbl : b.length ≤ 100000) (h : validH l = false ∨ bits < 0 ∨ 8 * (b.length : Int) < bits ∨ count < 0 ∨ 4096 < count) : PureF Try.prog 22 [.d (ints l), .d (bytesL b), I .i64 bits, I .i64 count] (.tup [.d (ints []), I .i64 1]) := by
  refine pure_of fun H => ?_
  refine spec_of Try.func22 (by kernel_rfl) rfl (by simp) ?_
  dsimp only [Try.f22]
  have hc := rcodes_s l hl
  cases hvl : validH l with
  | false =>
    rw [codesR, hvl] at hc
    simp only [Bool.false_eq_true, if_false] at hc
    repeat' (first | (refine k_op1 ?_; (first | refine o_sv rfl (by decide) ?_ | (refine k_call ?_; (refine o_fn hc rfl (by decide) ?_)))) | (refine k_ops ?_; (first | refine o_go (by first | exact .inl rfl | exact .inr ⟨_, _, _, rfl, rfl, rfl⟩) ?_ | refine o_nil ?_ | refine o_no rfl rfl (by decide) ?_)) | (refine k_run ?_; (first | refine r_seq ?_ | refine r_region ?_ | refine r_true rfl ?_)))
    all_goals try (exfalso; omega)
    all_goals refine r_nil 8 rfl ?_
    all_goals exact r_ret Try.func22 _ (res_two rfl rfl rfl) ⟨rfl, rfl⟩
  | true =>
    rw [codesR, hvl] at hc
    simp only [if_true] at hc
    rw [hvl] at h
    have h : bits < 0 ∨ 8 * (b.length : Int) < bits ∨ count < 0 ∨ 4096 < count := by simpa using h
    repeat' (first | (refine k_op1 ?_; (first | refine o_sv rfl (by decide) ?_ | (refine k_bin ?_; (refine o_val (v_mul (wi64 (by omega) (by omega))) rfl rfl (by decide) ?_)) | (refine k_blt ?_; (refine o_val (v_lenm rfl) rfl rfl (by decide) ?_)) | (refine k_call ?_; (refine o_fn hc rfl (by decide) ?_)))) | (refine k_ops ?_; (first | refine o_go (by first | exact .inl rfl | exact .inr ⟨_, _, _, rfl, rfl, rfl⟩) ?_ | refine o_nil ?_ | refine o_no rfl rfl (by decide) ?_ | refine o_casep rfl rfl (fun _ => ?_) (fun _ => ?_))) | (refine k_run ?_; (first | refine r_seq ?_ | refine r_region ?_ | refine r_true rfl ?_ | refine r_skip ?_ | refine r_if rfl (fun _ => ?_) (fun _ => ?_))))
    all_goals try (exfalso; omega)
    all_goals refine r_nil 8 rfl ?_
    all_goals exact r_ret Try.func22 _ (res_two rfl rfl rfl) ⟨rfl, rfl⟩
theorem rdecode_good (l b : List Int) (N c : Nat) (hl : l.length ≤ 9223372036854775807) (hbl : b.length ≤ 100000) (hv : validH l = true) (h1 : c ≤ 4096) (hN : N ≤ 8 * b.length) : PureF Try.prog 22 [.d (ints l), .d (bytesL b), I .i64 (N : Nat), I .i64 (c : Nat)] (.tup [.d (ints (decR l b N c).1), I .i64 (decR l b N c).2]) := by
  refine pure_of fun H => ?_
  refine spec_of Try.func22 (by kernel_rfl) rfl (by simp) ?_
  dsimp only [Try.f22]
  have hc := rcodes_s l hl
  rw [codesR, hv] at hc
  simp only [if_true] at hc
  obtain ⟨hl1, hr, _⟩ := validH_ok hv
  have hcl : (codesH l).length = l.length := by rw [codesH, cl_len, List.length_replicate]
  have hu := unpack_s b N hbl hN
  repeat' (first | (refine k_op1 ?_; (first | refine o_sv rfl (by decide) ?_ | (refine k_bin ?_; (refine o_val (v_mul (wi64 (by omega) (by omega))) rfl rfl (by decide) ?_)) | (refine k_blt ?_; (refine o_val (v_lenm rfl) rfl rfl (by decide) ?_)) | (refine k_call ?_; (first | refine o_fn hc rfl (by decide) ?_ | refine o_fn hu rfl (by decide) ?_)))) | (refine k_ops ?_; (first | refine o_go (by first | exact .inl rfl | exact .inr ⟨_, _, _, rfl, rfl, rfl⟩) ?_ | refine o_nil ?_ | refine o_no rfl rfl (by decide) ?_ | refine o_casep rfl rfl (fun _ => ?_) (fun _ => ?_))) | (refine k_run ?_; (first | refine r_seq ?_ | refine r_region ?_ | refine r_true rfl ?_ | refine r_skip ?_ | refine r_block ?_ | refine r_if rfl (fun _ => ?_) (fun _ => ?_))))
  all_goals try (exfalso; omega)
  have hP : ∀ r, rdec l (codesH l) (unpk b N) c 0 [] = r → decR l b N c = if r.2.1 ≠ 0 then ([], r.2.1) else if r.2.2 < N then ([], 9) else (r.1, 0) := fun r hr => by
    rw [decR, if_neg (by rw [hv]; simp; omega)]
    simp only [Int.toNat_natCast]
    rw [hr]
  have hLN : (unpk b N).length = N := by simp [unpk]
  obtain ⟨L, hL⟩ : ∃ L, unpk b N = L := ⟨_, rfl⟩
  obtain ⟨cs, hcs⟩ : ∃ cs, codesH l = cs := ⟨_, rfl⟩
  rw [hcs, hL] at hP
  rw [hL] at hLN
  rw [hcs] at hcl
  rw [hcs, hL]
  refine r_slot_row 14 1000 3 1 rfl (by decide) rfl ?_
  refine r_loop ?_
  refine r_less (r_inv (fun q : Nat × List Int => ⟨122, [(0, .d (ints l)), (3, I .i64 (c : Nat)), (10, .d (u64s cs)), (12, .d (bools L)), (13, I .i64 (q.1 : Nat)), (14, .ref (0, 1000))], [(1000, .row 3 1 (q.2.map fun x => [Dint x]))], H⟩)
    (fun q => q.1 ≤ N ∧ q.2.length ≤ c ∧ rdec l cs L (c - q.2.length) q.1 q.2 = rdec l cs L c 0 []) (fun q => c - q.2.length) ?_ (0, []) ⟨by simp, by simp, rfl⟩) rfl rfl
  intro ⟨a0, acc⟩ ⟨h2, h3, h4⟩ ih
  simp only at h2 h3 h4 ih ⊢
  by_cases hlt : acc.length < c
  · rw [show c - acc.length = (c - (acc.length + 1)) + 1 by omega, rdec] at h4
    repeat' (first | (refine k_op1 ?_; (first | refine o_sv rfl (by decide) ?_ | (refine k_blt ?_; (first | refine o_val (v_lenm rfl) rfl rfl (by decide) ?_ | refine o_val (v_lenrm rfl) rfl rfl (by decide) ?_)))) | (refine k_ops ?_; (first | refine o_go (by first | exact .inl rfl | exact .inr ⟨_, _, _, rfl, rfl, rfl⟩) ?_ | refine o_nil ?_)) | (refine k_run ?_; (first | refine r_seq ?_ | refine r_region ?_ | refine r_skip ?_ | refine r_block ?_ | refine r_if rfl (fun _ => ?_) (fun _ => ?_) | refine r_exit rfl ?_)))
    all_goals try (exfalso; omega)
    refine r_loop ?_
    refine r_less (r_inv (fun q : Nat × Int × Nat × Int => ⟨122, [(0, .d (ints l)), (3, I .i64 (c : Nat)), (10, .d (u64s cs)), (12, .d (bools L)), (13, I .i64 (q.1 : Nat)), (14, .ref (0, 1000)), (15, I .u64 q.2.1), (16, I .i64 (q.2.2.1 : Nat)), (17, I .i64 q.2.2.2)], [(1000, .row 3 1 (acc.map fun x => [Dint x]))], H⟩)
      (fun q => q.1 ≤ N ∧ q.2.2.1 ≤ 15 ∧ 0 ≤ q.2.1 ∧ q.2.1 < 2 ^ q.2.2.1 ∧ ((q.2.2.2 = -1 ∧ rsym l cs L (20 - q.2.2.1) q.1 q.2.1 q.2.2.1 = rsym l cs L 20 a0 0 0) ∨ (0 ≤ q.2.2.2 ∧ rsym l cs L 20 a0 0 0 = (q.1, q.2.2.2, 0))))
      (fun q => 16 - q.2.2.1) ?_ (a0, 0, 0, -1) ⟨h2, by simp, by simp, by simp, .inl ⟨rfl, rfl⟩⟩) rfl rfl
    intro ⟨a, v, m, F⟩ ⟨g1, g2, g3, g4, g5⟩ ih2
    simp only at g1 g2 g3 g4 g5 ih2 ⊢
    rcases g5 with ⟨rfl, g5⟩ | ⟨g5, g6⟩
    · rw [show 20 - m = (19 - m) + 1 by omega, rsym] at g5
      by_cases hend : L.length ≤ a
      · rw [if_pos hend] at g5
        repeat' (first | (refine k_op1 ?_; (first | refine o_sv rfl (by decide) ?_ | (refine k_blt ?_; (refine o_val (v_lenm rfl) rfl rfl (by decide) ?_)))) | (refine k_ops ?_; (first | refine o_go (by first | exact .inl rfl | exact .inr ⟨_, _, _, rfl, rfl, rfl⟩) ?_ | refine o_nil ?_)) | (refine k_run ?_; (first | refine r_seq ?_ | refine r_region ?_ | refine r_true rfl ?_ | refine r_skip ?_ | refine r_block ?_ | refine r_if rfl (fun _ => ?_) (fun _ => ?_))))
        all_goals try (exfalso; omega)
        refine r_nil 8 rfl ?_
        refine r_ret Try.func22 _ (res_two rfl rfl rfl) ⟨?_, rfl⟩
        rw [← g5, if_pos (by simp)] at h4
        rw [hP _ h4.symm, if_pos (by simp)]; rfl
      rw [if_neg hend] at g5
      simp only at g5
      obtain ⟨x, hx⟩ : ∃ x, L[a]? = some x := ⟨_, List.getElem?_eq_getElem (by omega)⟩
      have hgx : L.getD a false = x := by simp [List.getD, hx]
      rw [hgx] at g5
      obtain ⟨w, hw⟩ : ∃ w, v * 2 + (if x = true then 1 else 0) = w := ⟨_, rfl⟩
      rw [hw] at g5
      have h2m : (2 : Int) ^ m ≤ 32768 := (pow_up (d := (m : Int)) (by omega)).2
      have hw0 : 0 ≤ w ∧ w < 2 ^ (m + 1) := by rw [Int.pow_succ]; rw [← hw]; split <;> omega
      have hv0 : v < 32768 := by omega
      cases x <;> simp only [if_true, Bool.false_eq_true, if_false, Int.add_zero] at hw
      all_goals
        repeat' (first | (refine k_op1 ?_; (first | refine o_sv rfl (by decide) ?_ | (refine k_load ?_; (refine o_val (v_loade rfl rfl rfl) rfl rfl (by decide) ?_)) | (refine k_index ?_; (refine o_val (v_index rfl (by omega) (idx hx) rfl) rfl rfl (by decide) ?_)) | (refine k_bin ?_; (first | refine o_val (v_mul (wu64 (by omega) (by omega))) rfl rfl (by decide) ?_ | refine o_val (v_add (wu64 (by omega) (by omega))) rfl rfl (by decide) ?_ | refine o_val (v_add (wi64 (by omega) (by omega))) rfl rfl (by decide) ?_)) | (refine k_blt ?_; (refine o_val (v_lenm rfl) rfl rfl (by decide) ?_)))) | (refine k_ops ?_; (first | refine o_go (by first | exact .inl rfl | exact .inr ⟨_, _, _, rfl, rfl, rfl⟩) ?_ | refine o_nil ?_)) | (refine k_run ?_; (first | refine r_seq ?_ | refine r_region ?_ | refine r_true rfl ?_ | refine r_false rfl ?_ | refine r_skip ?_ | refine r_block ?_ | refine r_if rfl (fun _ => ?_) (fun _ => ?_))))
      all_goals try (exfalso; omega)
      all_goals rw [hw]
      all_goals refine r_loop ?_
      all_goals refine r_less (r_inv (fun q : Nat × Int × Bool => ⟨122, [(0, .d (ints l)), (3, I .i64 (c : Nat)), (10, .d (u64s cs)), (12, .d (bools L)), (13, I .i64 ((a + 1 : Nat) : Int)), (14, .ref (0, 1000)), (15, I .u64 w), (16, I .i64 ((m + 1 : Nat) : Int)), (17, I .i64 q.2.1), (18, B q.2.2), (72, .d (ints l)), (73, I .i64 l.length), (74, I .i64 (q.1 : Nat))], [(1000, .row 3 1 (acc.map fun x => [Dint x]))], H⟩)
          (fun q => q.1 ≤ l.length ∧ -1 ≤ q.2.1 ∧ rsc w ((m + 1 : Nat) : Int) cs (l.drop q.1) q.1 q.2.1 q.2.2 = rsc w ((m + 1 : Nat) : Int) cs l 0 (-1) false) (fun q => l.length - q.1) ?_ (0, -1, false) ⟨by simp, by simp, rfl⟩) rfl rfl
      all_goals
        intro ⟨s, F, A⟩ ⟨k1, k2, k3⟩ ih3
        simp only at k1 k2 k3 ih3 ⊢
        by_cases hs : s < l.length
        · obtain ⟨y, hy⟩ : ∃ y, l[s]? = some y := ⟨_, List.getElem?_eq_getElem hs⟩
          obtain ⟨z, hz⟩ : ∃ z, cs[s]? = some z := ⟨_, List.getElem?_eq_getElem (by omega)⟩
          have hgz : cs.getD s 0 = z := by simp [List.getD, hz]
          have hyr := hr y (List.mem_of_getElem? hy)
          rw [drop_cons hy, rsc, hgz] at k3
          obtain ⟨F', hF'⟩ : ∃ F', (if y = ((m + 1 : Nat) : Int) ∧ z = w then (s : Int) else F) = F' := ⟨_, rfl⟩
          rw [hF'] at k3
          have hF1 : -1 ≤ F' := by rw [← hF']; split <;> omega
          cases A with
          | true =>
            rw [Bool.true_or] at k3
            repeat' (first | (refine k_op1 ?_; (first | refine o_sv rfl (by decide) ?_ | (refine k_load ?_; (refine o_val (v_loade rfl rfl rfl) rfl rfl (by decide) ?_)) | (refine k_index ?_; (first | refine o_val (v_index rfl (by omega) (idx hy) rfl) rfl rfl (by decide) ?_ | refine o_val (v_index rfl (by omega) (idx hz) rfl) rfl rfl (by decide) ?_)) | (refine k_bin ?_; (refine o_val (v_add (wi64 (by omega) (by omega))) rfl rfl (by decide) ?_)))) | (refine k_ops ?_; (first | refine o_go (by first | exact .inl rfl | exact .inr ⟨_, _, _, rfl, rfl, rfl⟩) ?_ | refine o_nil ?_ | refine o_no rfl rfl (by decide) ?_ | refine o_no2 rfl rfl (by decide) ?_ | refine o_casep rfl rfl (fun _ => ?_) (fun _ => ?_))) | (refine k_run ?_; (first | refine r_seq ?_ | refine r_region ?_ | refine r_false rfl ?_ | refine r_skip ?_ | refine r_block ?_ | refine r_inBlock ?_ | refine r_if rfl (fun _ => ?_) (fun _ => ?_) | refine r_exit rfl ?_)))
            all_goals try (exfalso; omega)
            all_goals first
              | (rw [if_pos (by omega)] at hF'; subst hF'; exact r_less (ih3 (s + 1, (s : Int), true) ⟨by simp only; omega, by simp only; omega, k3⟩ (by simp only; omega)) rfl rfl)
              | (rw [if_neg (by omega)] at hF'; subst hF'; exact r_less (ih3 (s + 1, F, true) ⟨by simp only; omega, by simp only; omega, k3⟩ (by simp only; omega)) rfl rfl)
          | false =>
            rw [Bool.false_or] at k3
            by_cases hle : ((m + 1 : Nat) : Int) ≤ y
            · rw [decide_eq_true hle, Bool.true_and] at k3
              repeat' (first | (refine k_op1 ?_; (first | refine o_sv rfl (by decide) ?_ | (refine k_load ?_; (refine o_val (v_loade rfl rfl rfl) rfl rfl (by decide) ?_)) | (refine k_index ?_; (first | refine o_val (v_index rfl (by omega) (idx hy) rfl) rfl rfl (by decide) ?_ | refine o_val (v_index rfl (by omega) (idx hz) rfl) rfl rfl (by decide) ?_)) | (refine k_bin ?_; (first | refine o_val (v_shr (by omega)) rfl rfl (by decide) ?_ | refine o_val (v_add (wi64 (by omega) (by omega))) rfl rfl (by decide) ?_ | refine o_val (v_sub (wi64 (by omega) (by omega))) rfl rfl (by decide) ?_)) | (refine k_conv ?_; (refine o_val (v_conv rfl rfl (wu64 (by omega) (by omega))) rfl rfl (by decide) ?_)))) | (refine k_ops ?_; (first | refine o_go (by first | exact .inl rfl | exact .inr ⟨_, _, _, rfl, rfl, rfl⟩) ?_ | refine o_nil ?_ | refine o_no rfl rfl (by decide) ?_ | refine o_casep rfl rfl (fun _ => ?_) (fun _ => ?_))) | (refine k_run ?_; (first | refine r_seq ?_ | refine r_region ?_ | refine r_true rfl ?_ | refine r_false rfl ?_ | refine r_skip ?_ | refine r_block ?_ | refine r_inBlock ?_ | refine r_if rfl (fun _ => ?_) (fun _ => ?_) | refine r_exit rfl ?_)))
              all_goals try (exfalso; omega)
              all_goals first
                | (rw [if_pos (by omega)] at hF'; subst hF'; exact r_less (ih3 (s + 1, (s : Int), _) ⟨by simp only; omega, by simp only; omega, k3⟩ (by simp only; omega)) rfl rfl)
                | (rw [if_neg (by omega)] at hF'; subst hF'; exact r_less (ih3 (s + 1, F, _) ⟨by simp only; omega, by simp only; omega, k3⟩ (by simp only; omega)) rfl rfl)
            · rw [decide_eq_false hle, Bool.false_and] at k3
              rw [if_neg (by omega)] at hF'; subst hF'
              repeat' (first | (refine k_op1 ?_; (first | refine o_sv rfl (by decide) ?_ | (refine k_load ?_; (refine o_val (v_loade rfl rfl rfl) rfl rfl (by decide) ?_)) | (refine k_index ?_; (first | refine o_val (v_index rfl (by omega) (idx hy) rfl) rfl rfl (by decide) ?_ | refine o_val (v_index rfl (by omega) (idx hz) rfl) rfl rfl (by decide) ?_)) | (refine k_bin ?_; (first | refine o_val (v_shr (by omega)) rfl rfl (by decide) ?_ | refine o_val (v_add (wi64 (by omega) (by omega))) rfl rfl (by decide) ?_ | refine o_val (v_sub (wi64 (by omega) (by omega))) rfl rfl (by decide) ?_)) | (refine k_conv ?_; (refine o_val (v_conv rfl rfl (wu64 (by omega) (by omega))) rfl rfl (by decide) ?_)))) | (refine k_ops ?_; (first | refine o_go (by first | exact .inl rfl | exact .inr ⟨_, _, _, rfl, rfl, rfl⟩) ?_ | refine o_nil ?_ | refine o_no rfl rfl (by decide) ?_ | refine o_casep rfl rfl (fun _ => ?_) (fun _ => ?_))) | (refine k_run ?_; (first | refine r_seq ?_ | refine r_region ?_ | refine r_true rfl ?_ | refine r_false rfl ?_ | refine r_skip ?_ | refine r_block ?_ | refine r_inBlock ?_ | refine r_if rfl (fun _ => ?_) (fun _ => ?_) | refine r_exit rfl ?_)))
              all_goals try (exfalso; omega)
              all_goals exact r_less (ih3 (s + 1, F, false) ⟨by simp only; omega, by simp only; omega, k3⟩ (by simp only; omega)) rfl rfl
        · obtain rfl : s = l.length := by omega
          rw [List.drop_length, rsc] at k3
          have hal := rsc_alive w ((m + 1 : Nat) : Int) cs l 0 (-1) false
          rw [← k3] at g5 hal
          simp only at g5 hal
          cases A with
          | false =>
            rw [if_pos rfl] at g5
            repeat' (first | (refine k_op1 ?_; (refine o_sv rfl (by decide) ?_)) | (refine k_ops ?_; (first | refine o_go (by first | exact .inl rfl | exact .inr ⟨_, _, _, rfl, rfl, rfl⟩) ?_ | refine o_nil ?_)) | (refine k_run ?_; (first | refine r_seq ?_ | refine r_region ?_ | refine r_true rfl ?_ | refine r_skip ?_ | refine r_block ?_ | refine r_if rfl (fun _ => ?_) (fun _ => ?_) | refine r_exit rfl ?_)))
            all_goals try (exfalso; omega)
            refine r_nil 8 rfl ?_
            refine r_ret Try.func22 _ (res_two rfl rfl rfl) ⟨?_, rfl⟩
            rw [← g5, if_pos (by simp)] at h4
            rw [hP _ h4.symm, if_pos (by simp)]; rfl
          | true =>
            rw [if_neg (by simp)] at g5
            have hm15 : m + 1 ≤ 15 := by
              rcases hal rfl with h | ⟨k, hk, hk2⟩
              · cases h
              · have := hr k hk; omega
            repeat' (first | (refine k_op1 ?_; (refine o_sv rfl (by decide) ?_)) | (refine k_ops ?_; (first | refine o_go (by first | exact .inl rfl | exact .inr ⟨_, _, _, rfl, rfl, rfl⟩) ?_ | refine o_nil ?_)) | (refine k_run ?_; (first | refine r_seq ?_ | refine r_region ?_ | refine r_false rfl ?_ | refine r_skip ?_ | refine r_block ?_ | refine r_inBlock ?_ | refine r_if rfl (fun _ => ?_) (fun _ => ?_) | refine r_exit rfl ?_)))
            all_goals try (exfalso; omega)
            refine r_less (ih2 (a + 1, w, m + 1, F) ⟨by simp only; omega, hm15, hw0.1, hw0.2, ?_⟩ (by simp only; omega)) rfl rfl
            by_cases hF : F < 0
            · obtain rfl : F = -1 := by omega
              rw [if_pos (by omega)] at g5
              exact .inl ⟨rfl, by simp only; rw [show 20 - (m + 1) = 19 - m by omega]; exact g5⟩
            · rw [if_neg hF] at g5
              exact .inr ⟨by simp only; omega, g5.symm⟩
    · rw [g6, if_neg (by simp)] at h4
      repeat' (first | (refine k_op1 ?_; (first | refine o_sv rfl (by decide) ?_ | (refine k_blt ?_; (first | refine o_app1 (g := fun x : Int => [Dint x]) rfl rfl F rfl rfl rfl rfl rfl rfl rfl (by decide) (by omega) ?_ | refine o_val (v_lenm rfl) rfl rfl (by decide) ?_)) | (refine k_lit ?_; (refine o_lit rfl rfl rfl rfl rfl rfl rfl rfl (by decide) ?_)))) | (refine k_ops ?_; (first | refine o_go (by first | exact .inl rfl | exact .inr ⟨_, _, _, rfl, rfl, rfl⟩) ?_ | refine o_nil ?_)) | (refine k_run ?_; (first | refine r_seq ?_ | refine r_region ?_ | refine r_skip ?_ | refine r_block ?_ | refine r_inBlock ?_ | refine r_if rfl (fun _ => ?_) (fun _ => ?_) | refine r_exit rfl ?_)))
      all_goals try (exfalso; omega)
      refine r_ren 116 1000 rfl rfl ?_
      exact r_less (ih (a, acc ++ [F]) ⟨g1, by simp; omega, by simp only [List.length_append, List.length_singleton]; exact h4⟩ (by simp only [List.length_append, List.length_singleton]; omega)) rfl rfl
  · have hce : acc.length = c := by omega
    rw [hce, Nat.sub_self, rdec] at h4
    by_cases hn : a0 < N
    · repeat' (first | (refine k_op1 ?_; (first | refine o_sv rfl (by decide) ?_ | (refine k_blt ?_; (first | refine o_val (v_lenm rfl) rfl rfl (by decide) ?_ | refine o_val (v_lenrm rfl) rfl rfl (by decide) ?_)))) | (refine k_ops ?_; (first | refine o_go (by first | exact .inl rfl | exact .inr ⟨_, _, _, rfl, rfl, rfl⟩) ?_ | refine o_nil ?_)) | (refine k_run ?_; (first | refine r_seq ?_ | refine r_region ?_ | refine r_skip ?_ | refine r_block ?_ | refine r_if rfl (fun _ => ?_) (fun _ => ?_) | refine r_exit rfl ?_)))
      all_goals try (exfalso; omega)
      refine r_nil 8 rfl ?_
      refine r_ret Try.func22 _ (res_two rfl rfl rfl) ⟨?_, rfl⟩
      rw [hP _ h4.symm, if_neg (by simp), if_pos hn]; rfl
    · refine r_freeze 1000 rfl ?_
      repeat' (first | (refine k_op1 ?_; (first | refine o_sv rfl (by decide) ?_ | (refine k_blt ?_; (refine o_val (v_lenm rfl) rfl rfl (by decide) ?_)))) | (refine k_ops ?_; (first | refine o_go (by first | exact .inl rfl | exact .inr ⟨_, _, _, rfl, rfl, rfl⟩) ?_ | refine o_nil ?_)) | (refine k_run ?_; (first | refine r_seq ?_ | refine r_region ?_ | refine r_skip ?_ | refine r_block ?_ | refine r_if rfl (fun _ => ?_) (fun _ => ?_) | refine r_exit rfl ?_)))
      all_goals try (exfalso; omega)
      refine r_ret Try.func22 _ (res_two rfl rfl rfl) ⟨?_, rfl⟩
      rw [hP _ h4.symm, if_neg (by simp), if_neg hn]; rfl
end Go.Proofs.Ytlgdilkmcfpjjaa
