/- A law holds for every input; no condition. -/
import Derived.Test.YtiapeheclfkdmaaWk
set_option linter.all false
set_option linter.unusedVariables false
set_option linter.unusedSimpArgs false
namespace Go.Proofs.Ytiapeheclfkdmaa
open Go.Ab Go.Stab
set_option maxHeartbeats 20000000
set_option maxRecDepth 100000
set_option linter.unusedVariables false
set_option linter.unusedSimpArgs false
attribute [local irreducible] Run Ops Op1 Does Val Tr PureF Eff1 NF Rel EffV EffM

theorem wu32 {x : Int} (h1 : 0 ≤ x) (h2 : x < 4294967296) : IntKind.u32.wrap x = x := by
  simp [IntKind.wrap, IntKind.bits, IntKind.signed]; omega
def crcR : Int → List Int → Int
  | v, [] => v
  | v, c :: r => crcR (stN 8 (xorV .u32 v c)) r
theorem rsum_s (b : List Int) (hb : b.length ≤ 100000) (hc : ∀ c ∈ b, 0 ≤ c ∧ c < 256) : PureF Try.prog 56 [.d (bytesL b)] (.d (Du32 (comV .u32 (crcR 4294967295 b)))) := by
  refine pure_of fun H => ?_
  refine spec_of Try.func56 (by kernel_rfl) rfl (by simp) ?_
  dsimp only [Try.f56]
  repeat' (first | (refine k_op1 ?_; (first | refine o_sv rfl (by decide) ?_ | (refine k_blt ?_; (refine o_val (v_lenm rfl) rfl rfl (by decide) ?_)))) | (refine k_ops ?_; (first | refine o_go (by first | exact .inl rfl | exact .inr ⟨_, _, _, rfl, rfl, rfl⟩) ?_ | refine o_nil ?_)) | (refine k_run ?_; (first | refine r_seq ?_ | refine r_region ?_ | refine r_block ?_)))
  all_goals try (exfalso; omega)
  refine r_loop ?_
  refine r_less (r_inv (fun q : Nat × Int => ⟨20, [(3, .d (Du32 q.2)), (6, .d (bytesL b)), (7, I .i64 b.length), (8, I .i64 (q.1 : Nat))], [], H⟩) (fun q => q.1 ≤ b.length ∧ crcR q.2 (b.drop q.1) = crcR 4294967295 b) (fun q => b.length - q.1) ?_ (0, 4294967295) ⟨Nat.zero_le _, rfl⟩) rfl rfl
  rintro ⟨i, v⟩ ⟨h1, h2⟩ ih
  simp only at h1 h2 ih ⊢
  by_cases hlt : i < b.length
  · obtain ⟨c, hx⟩ : ∃ c, b[i]? = some c := ⟨_, List.getElem?_eq_getElem hlt⟩
    obtain ⟨c0, c1⟩ := hc c (List.mem_of_getElem? hx)
    rw [drop_cons hx, crcR] at h2
    have hs := rstep_s (xorV .u32 v c)
    repeat' (first | (refine k_op1 ?_; (first | refine o_sv rfl (by decide) ?_ | (refine k_load ?_; (refine o_val (v_loade rfl rfl rfl) rfl rfl (by decide) ?_)) | (refine k_index ?_; (refine o_val (v_index (ys := b.map fun x => [Du8 x]) rfl (by omega) (idx hx) rfl) rfl rfl (by decide) ?_)) | (refine k_bin ?_; (first | refine o_val v_bxor rfl rfl (by decide) ?_ | refine o_val (v_add (wi64 (by omega) (by omega))) rfl rfl (by decide) ?_)) | (refine k_call ?_; (refine o_fn hs rfl (by decide) ?_)) | (refine k_conv ?_; (refine o_val (v_conv rfl rfl (wu32 (by omega) (by omega))) rfl rfl (by decide) ?_)))) | (refine k_ops ?_; (first | refine o_go (by first | exact .inl rfl | exact .inr ⟨_, _, _, rfl, rfl, rfl⟩) ?_ | refine o_nil ?_)) | (refine k_run ?_; (first | refine r_seq ?_ | refine r_region ?_ | refine r_skip ?_ | refine r_block ?_ | refine r_inBlock ?_ | refine r_if rfl (fun _ => ?_) (fun _ => ?_) | refine r_exit rfl ?_)))
    all_goals try (exfalso; omega)
    exact r_less (ih (i + 1, _) ⟨by simp only; omega, h2⟩ (by simp only; omega)) rfl rfl
  · obtain rfl : i = b.length := by omega
    rw [List.drop_length, crcR] at h2
    rw [← h2]
    repeat' (first | (refine k_op1 ?_; (first | refine o_val v_com rfl rfl (by decide) ?_ | refine o_sv rfl (by decide) ?_)) | (refine k_ops ?_; (first | refine o_go (by first | exact .inl rfl | exact .inr ⟨_, _, _, rfl, rfl, rfl⟩) ?_ | refine o_nil ?_)) | (refine k_run ?_; (first | refine r_seq ?_ | refine r_region ?_ | refine r_skip ?_ | refine r_block ?_ | refine r_if rfl (fun _ => ?_) (fun _ => ?_) | refine r_exit rfl ?_)))
    all_goals try (exfalso; omega)
    exact r_ret Try.func56 _ (res_one rfl rfl) ⟨rfl, rfl⟩
def nib (v : Int) : Int := xorV .u32 (shrV .u32 v 4) (stN 4 (andV .u32 v 15))
def crcP : Int → List Int → Int
  | v, [] => v
  | v, c :: r => crcP (nib (nib (xorV .u32 v c))) r
def tab (k : Nat) : List D := (List.range 16).map fun i : Nat => if i < k then Du32 (stN 4 (i : Nat)) else Du32 0
theorem tab_len (k : Nat) : (tab k).length = 16 := by simp [tab]
theorem tab_get (i : Nat) (hi : i < 16) : (tab 16)[i]? = some (Du32 (stN 4 (i : Nat))) := by
  rw [tab, List.getElem?_map, List.getElem?_range hi]; simp [hi]
theorem tab_set (k : Nat) (hk : k < 16) : (tab k).set k (Du32 (stN 4 (k : Nat))) = tab (k + 1) := by
  apply List.ext_getElem
  · simp [tab]
  · intro i h1 h2
    rw [List.getElem_set]
    split
    · rename_i e; subst e; simp [tab]
    · rename_i e
      simp only [tab, List.getElem_map, List.getElem_range]
      by_cases h : i < k
      · rw [if_pos h, if_pos (by omega)]
      · rw [if_neg h, if_neg (by omega)]
theorem and15 (v : Int) : 0 ≤ andV .u32 v 15 ∧ andV .u32 v 15 < 16 := by
  have h : ((BitVec.ofInt 32 v &&& BitVec.ofInt 32 15).toNat) ≤ 15 := by
    rw [BitVec.toNat_and]
    exact Nat.and_le_right
  have e : andV .u32 v 15 = (((BitVec.ofInt 32 v &&& BitVec.ofInt 32 15).toNat : Nat) : Int) := by
    show IntKind.u32.wrap (((BitVec.ofInt 32 v &&& BitVec.ofInt 32 15).toNat : Nat) : Int) = _
    exact wu32 (by omega) (by omega)
  rw [e]; omega
theorem sum_s (b : List Int) (hb : b.length ≤ 100000) (hc : ∀ c ∈ b, 0 ≤ c ∧ c < 256) : PureF Try.prog 54 [.d (bytesL b)] (.d (Du32 (comV .u32 (crcP 4294967295 b)))) := by
  refine pure_of fun H => ?_
  refine spec_of Try.func54 (by kernel_rfl) rfl (by simp) ?_
  dsimp only [Try.f54]
  repeat' (first | (refine k_op1 ?_; (first | refine o_sv rfl (by decide) ?_ | (refine k_alloc ?_; (refine o_does (d_alloc rfl rfl (by decide)) ?_)))) | (refine k_ops ?_; (first | refine o_go (by first | exact .inl rfl | exact .inr ⟨_, _, _, rfl, rfl, rfl⟩) ?_ | refine o_nil ?_)) | (refine k_run ?_; (first | refine r_seq ?_ | refine r_region ?_ | refine r_block ?_)))
  all_goals try (exfalso; omega)
  refine r_cells 3 rfl (cs' := (tab 0).map .d) rfl ?_
  refine r_loop ?_
  refine r_less (r_inv (fun k : Nat => ⟨44, [(0, .d (bytesL b)), (3, .ptr (0, 3) 0), (8, I .i64 (k : Nat))], [(3, .box ((tab k).map .d))], H⟩) (fun k => k ≤ 16) (fun k => 16 - k) ?_ 0 (Nat.zero_le _)) rfl rfl
  intro k h1 ih
  by_cases hlt : k < 16
  · have hs := step_s (k : Nat) 4 (by decide)
    have hfit : decide (0 + ((k : Nat) : Int).toNat + 1 ≤ ((tab k).map PV.d).length) = true := by simp [tab_len]; omega
    repeat' (first | (refine k_op1 ?_; (first | refine o_sv rfl (by decide) ?_ | (refine k_index ?_; (refine o_val (v_aindex rfl (by omega) (by omega) rfl) rfl rfl (by decide) ?_)) | (refine k_bin ?_; (refine o_val (v_add (wi64 (by omega) (by omega))) rfl rfl (by decide) ?_)) | (refine k_blt ?_; (refine o_val (v_lenm rfl) rfl rfl (by decide) ?_)) | (refine k_call ?_; (refine o_fn hs rfl (by decide) ?_)) | (refine k_store ?_; (refine o_store (raw := .box ((tab k).map .d)) (raw' := .box (splice ((tab k).map .d) (0 + ((k : Nat) : Int).toNat) [.d (Du32 (stN 4 (k : Nat)))])) (s' := ⟨44, _, (3, .box (splice ((tab k).map .d) (0 + ((k : Nat) : Int).toNat) [.d (Du32 (stN 4 (k : Nat)))])) :: _, H⟩) rfl rfl rfl rfl rfl rfl hfit rfl rfl ?_)) | (refine k_conv ?_; (refine o_val (v_conv rfl rfl (wu32 (by omega) (by omega))) rfl rfl (by decide) ?_)))) | (refine k_ops ?_; (first | refine o_go (by first | exact .inl rfl | exact .inr ⟨_, _, _, rfl, rfl, rfl⟩) ?_ | refine o_nil ?_)) | (refine k_run ?_; (first | refine r_seq ?_ | refine r_region ?_ | refine r_skip ?_ | refine r_block ?_ | refine r_inBlock ?_ | refine r_if rfl (fun _ => ?_) (fun _ => ?_) | refine r_exit rfl ?_)))
    all_goals try (exfalso; omega)
    have hk3 : splice ((tab k).map PV.d) (0 + ((k : Nat) : Int).toNat) [PV.d (Du32 (stN 4 (k : Nat)))] = (tab (k + 1)).map .d := by
      rw [show 0 + ((k : Nat) : Int).toNat = k by omega, splice1 _ k _ (by simp [tab_len]; omega), ← tab_set k hlt, List.map_set]
    refine r_cells 3 rfl hk3 ?_
    exact r_less (ih (k + 1) (by omega) (by omega)) rfl rfl
  · obtain rfl : k = 16 := by omega
    clear ih
    repeat' (first | (refine k_op1 ?_; (first | refine o_sv rfl (by decide) ?_ | (refine k_blt ?_; (refine o_val (v_lenm rfl) rfl rfl (by decide) ?_)))) | (refine k_ops ?_; (first | refine o_go (by first | exact .inl rfl | exact .inr ⟨_, _, _, rfl, rfl, rfl⟩) ?_ | refine o_nil ?_)) | (refine k_run ?_; (first | refine r_seq ?_ | refine r_region ?_ | refine r_false rfl ?_ | refine r_block ?_ | refine r_exit rfl ?_)))
    all_goals try (exfalso; omega)
    refine r_loop ?_
    refine r_less (r_inv (fun q : Nat × Int => ⟨44, [(3, .ptr (0, 3) 0), (5, .d (Du32 q.2)), (17, .d (bytesL b)), (18, I .i64 b.length), (19, I .i64 (q.1 : Nat))], [(3, .box ((tab 16).map .d))], H⟩) (fun q => q.1 ≤ b.length ∧ crcP q.2 (b.drop q.1) = crcP 4294967295 b) (fun q => b.length - q.1) ?_ (0, 4294967295) ⟨Nat.zero_le _, rfl⟩) rfl rfl
    rintro ⟨i, v⟩ ⟨j1, h2⟩ ih
    simp only at j1 h2 ih ⊢
    by_cases hlt2 : i < b.length
    · obtain ⟨c, hx⟩ : ∃ c, b[i]? = some c := ⟨_, List.getElem?_eq_getElem hlt2⟩
      obtain ⟨c0, c1⟩ := hc c (List.mem_of_getElem? hx)
      rw [drop_cons hx, crcP] at h2
      have a1 := and15 (xorV .u32 v c)
      have a2 := and15 (nib (xorV .u32 v c))
      have hg : ∀ y : Int, 0 ≤ y → y < 16 → ((tab 16).map PV.d)[0 + y.toNat]? = some (.d (Du32 (stN 4 y))) := fun y y0 y1 => by
        rw [List.getElem?_map, show 0 + y.toNat = y.toNat by omega, tab_get y.toNat (by omega), show ((y.toNat : Nat) : Int) = y by omega]; rfl
      have g1 := hg _ a1.1 a1.2
      have g2 := hg _ a2.1 a2.2
      have en : ∀ x, xorV .u32 (shrV .u32 x 4) (stN 4 (andV .u32 x 15)) = nib x := fun _ => rfl
      repeat' (first | (refine k_op1 ?_; (first | refine o_sv rfl (by decide) ?_ | (refine k_load ?_; (first | refine o_val (v_load (b := .box ((tab 16).map .d)) rfl g2 rfl rfl) rfl rfl (by decide) ?_ | refine o_val (v_load (b := .box ((tab 16).map .d)) rfl g1 rfl rfl) rfl rfl (by decide) ?_ | refine o_val (v_loade rfl rfl rfl) rfl rfl (by decide) ?_)) | (refine k_index ?_; (first | refine o_val (v_index (ys := b.map fun x => [Du8 x]) rfl (by omega) (idx hx) rfl) rfl rfl (by decide) ?_ | refine o_val (v_aindex rfl a1.1 a1.2 rfl) rfl rfl (by decide) ?_ | refine o_val (v_aindex rfl a2.1 a2.2 rfl) rfl rfl (by decide) ?_)) | (refine k_bin ?_; (first | refine o_val v_band rfl rfl (by decide) ?_ | refine o_val (v_shr (by omega)) rfl rfl (by decide) ?_ | refine o_val v_bxor rfl rfl (by decide) ?_ | refine o_val (v_add (wi64 (by omega) (by omega))) rfl rfl (by decide) ?_)) | (refine k_conv ?_; (refine o_val (v_conv rfl rfl (wu32 (by omega) (by omega))) rfl rfl (by decide) ?_)))) | (refine k_ops ?_; (first | refine o_go (by first | exact .inl rfl | exact .inr ⟨_, _, _, rfl, rfl, rfl⟩) ?_ | refine o_nil ?_)) | (refine k_run ?_; (first | refine r_seq ?_ | refine r_region ?_ | refine r_skip ?_ | refine r_block ?_ | refine r_inBlock ?_ | refine r_if rfl (fun _ => ?_) (fun _ => ?_) | refine r_exit rfl ?_)))
      all_goals try (exfalso; omega)
      exact r_less (ih (i + 1, nib (nib (xorV .u32 v c))) ⟨by simp only; omega, h2⟩ (by simp only; omega)) rfl rfl
    · obtain rfl : i = b.length := by omega
      rw [List.drop_length, crcP] at h2
      rw [← h2]
      repeat' (first | (refine k_op1 ?_; (first | refine o_val v_com rfl rfl (by decide) ?_ | refine o_sv rfl (by decide) ?_)) | (refine k_ops ?_; (first | refine o_go (by first | exact .inl rfl | exact .inr ⟨_, _, _, rfl, rfl, rfl⟩) ?_ | refine o_nil ?_)) | (refine k_run ?_; (first | refine r_seq ?_ | refine r_region ?_ | refine r_skip ?_ | refine r_block ?_ | refine r_if rfl (fun _ => ?_) (fun _ => ?_) | refine r_exit rfl ?_)))
      all_goals try (exfalso; omega)
      exact r_ret Try.func54 _ (res_one rfl rfl) ⟨rfl, rfl⟩
end Go.Proofs.Ytiapeheclfkdmaa
namespace Go.Proofs.Ytiapeheclfkdmaa
open Go.Ab Go.Stab
set_option maxHeartbeats 20000000
set_option maxRecDepth 100000
set_option linter.unusedVariables false
set_option linter.unusedSimpArgs false
abbrev bI (x : BitVec 32) : Int := ((x.toNat : Nat) : Int)
theorem bI_of (x : BitVec 32) : BitVec.ofInt 32 (bI x) = x := by simp [bI]
theorem bI_wrap (x : BitVec 32) : IntKind.u32.wrap (bI x) = bI x := by
  have := x.isLt
  exact wu32 (by show (0 : Int) ≤ ((x.toNat : Nat) : Int); omega) (by show ((x.toNat : Nat) : Int) < _; omega)
theorem xor_b (x y : BitVec 32) : xorV .u32 (bI x) (bI y) = bI (x ^^^ y) := by
  show IntKind.u32.wrap (bI (BitVec.ofInt 32 (bI x) ^^^ BitVec.ofInt 32 (bI y))) = _
  rw [bI_wrap, bI_of, bI_of]
theorem and_b (x y : BitVec 32) : andV .u32 (bI x) (bI y) = bI (x &&& y) := by
  show IntKind.u32.wrap (bI (BitVec.ofInt 32 (bI x) &&& BitVec.ofInt 32 (bI y))) = _
  rw [bI_wrap, bI_of, bI_of]
theorem shr_b (x : BitVec 32) (n : Nat) (hn : n ≤ 32) : shrV .u32 (bI x) (n : Nat) = bI (x >>> n) := by
  rw [shrV_eq (by show (0 : Int) ≤ ((x.toNat : Nat) : Int); omega) (by simpa [IntKind.bits] using hn)]
  simp only [bI, BitVec.toNat_ushiftRight, Nat.shiftRight_eq_div_pow, Int.toNat_natCast]
  simp
theorem xor_any (v c : Int) : ∃ x : BitVec 32, xorV .u32 v c = bI x := ⟨BitVec.ofInt 32 v ^^^ BitVec.ofInt 32 c, by
  show IntKind.u32.wrap (bI (BitVec.ofInt 32 v ^^^ BitVec.ofInt 32 c)) = _
  rw [bI_wrap]⟩
theorem st1_b (x : BitVec 32) : st1 (bI x) = bI (stB x) := by
  have e1 : andV .u32 (bI x) 1 = bI (x &&& 1#32) := and_b x 1#32
  have e2 : shrV .u32 (bI x) 1 = bI (x >>> 1) := shr_b x 1 (by decide)
  have e3 : xorV .u32 (bI (x >>> 1)) 2197175160 = bI (x >>> 1 ^^^ polyB) := xor_b (x >>> 1) polyB
  rw [st1, e1, e2, e3, stB, m]
  by_cases h : x &&& 1#32 = 1#32
  · rw [if_pos (by rw [h]; rfl), if_pos h]
  · rw [if_neg (fun h2 => h (BitVec.eq_of_toNat_eq (by have : (((x &&& 1#32).toNat : Nat) : Int) = 1 := h2; simpa using (by omega : (x &&& 1#32).toNat = 1)))), if_neg h]
    simp
theorem stN4_b (x : BitVec 32) : stN 4 (bI x) = bI (st4 x) := by
  rw [stN, stN, stN, stN, stN, st1_b, st1_b, st1_b, st1_b]; rfl
theorem stN8_b (x : BitVec 32) : stN 8 (bI x) = bI (st4 (st4 x)) := by
  have : stN 8 (bI x) = stN 4 (stN 4 (bI x)) := rfl
  rw [this, stN4_b, stN4_b]
theorem nib_b (x : BitVec 32) : nib (bI x) = bI (st4 x) := by
  have e1 : andV .u32 (bI x) 15 = bI (x &&& 15#32) := and_b x 15#32
  have e2 : shrV .u32 (bI x) 4 = bI (x >>> 4) := shr_b x 4 (by decide)
  rw [nib, e1, e2, stN4_b, xor_b, ← nibB]
/-- both checksums are one -/
theorem crc_eq : ∀ (b : List Int) (v : Int), crcP v b = crcR v b
  | [], v => rfl
  | c :: r, v => by
    rw [crcP, crcR]
    obtain ⟨x, hx⟩ := xor_any v c
    rw [hx, nib_b, nib_b, stN8_b]
    exact crc_eq r _
end Go.Proofs.Ytiapeheclfkdmaa
namespace Go.Proofs.Ytiapeheclfkdmaa
open Go.Ab Go.Stab
set_option maxHeartbeats 20000000
set_option maxRecDepth 100000
set_option linter.unusedVariables false
set_option linter.unusedSimpArgs false
attribute [local irreducible] Run Ops Op1 Does Val Tr PureF Eff1 NF Rel EffV EffM

def crcV (b : List Int) : Int := comV .u32 (crcR 4294967295 b)
def sb (v : Int) : List Int := [v % 256, shrV .u32 v 8 % 256, shrV .u32 v 16 % 256, shrV .u32 v 24 % 256]
def sealB (b : List Int) : List Int := b ++ sb (crcV b)
theorem sealB_len (b : List Int) : (sealB b).length = b.length + 4 := by simp [sealB, sb]
theorem rseal_s (b : List Int) (hb : b.length ≤ 100000) (hc : ∀ c ∈ b, 0 ≤ c ∧ c < 256) : PureF Try.prog 42 [.d (bytesL b)] (.d (bytesL (sealB b))) := by
  refine pure_of fun H => ?_
  refine spec_of Try.func42 (by kernel_rfl) rfl (by simp) ?_
  dsimp only [Try.f42]
  have hs : PureF Try.prog 56 [.d (bytesL b)] (.d (Du32 (crcV b))) := rsum_s b hb hc
  repeat' (first | (refine k_op1 ?_; (first | refine o_sv rfl (by decide) ?_ | (refine k_bin ?_; (refine o_val (v_shr (by omega)) rfl rfl (by decide) ?_)) | (refine k_blt ?_; (first | refine o_apps (q := b) (r := sb (crcV b)) (g := fun x : Int => [Du8 x]) rfl rfl rfl rfl rfl (fun _ => rfl) rfl rfl (by decide) (by simp [sb]; omega) ?_ | refine o_appn (r := b) (g := fun x : Int => [Du8 x]) rfl rfl rfl (fun _ => rfl) rfl rfl (by decide) (by omega) ?_)) | (refine k_call ?_; (refine o_fn hs rfl (by decide) ?_)) | (refine k_lit ?_; (refine o_lit rfl rfl rfl rfl rfl rfl rfl rfl (by decide) ?_)) | (refine k_conv ?_; (refine o_val (v_convW rfl rfl (wu8m _)) rfl rfl (by decide) ?_)))) | (refine k_ops ?_; (first | refine o_go (by first | exact .inl rfl | exact .inr ⟨_, _, _, rfl, rfl, rfl⟩) ?_ | refine o_nil ?_)) | (refine k_run ?_; (first | refine r_seq ?_ | refine r_region ?_)))
  all_goals try (exfalso; omega)
  refine r_freeze 20 rfl ?_
  exact r_ret Try.func42 _ (res_one rfl rfl) ⟨rfl, rfl⟩
/-- what is left of some bytes without the last four -/
def cut4 (b : List Int) : List Int := b.take (b.length - 4)
def okSeal (b : List Int) : Bool := decide (4 ≤ b.length) && decide (sealB (cut4 b) = b)
def isB (b : List Int) : Prop := ∀ c ∈ b, 0 ≤ c ∧ c < 256
theorem str_inj : ∀ {a b : List Int}, isB a → isB b → strOfNums a = strOfNums b → a = b := by
  intro a b ha hb h
  have h1 := congrArg (fun t : ByteArray => t.data.toList) h
  simp only [strOfNums_data] at h1
  induction a generalizing b with
  | nil => cases b with | nil => rfl | cons y b => simp at h1
  | cons x a ih =>
    cases b with
    | nil => simp at h1
    | cons y b =>
      simp only [List.map_cons, List.cons.injEq] at h1
      obtain ⟨e1, e2⟩ := h1
      have hx := ha x (by simp)
      have hy := hb y (by simp)
      have e3 := congrArg UInt8.toNat e1
      simp only [UInt8.toNat_ofNat'] at e3
      have hxy : x = y := by omega
      rw [hxy, ih (fun c hc => ha c (by simp [hc])) (fun c hc => hb c (by simp [hc])) (by simp [strOfNums, e2]) e2]
theorem sb_isB (v : Int) : isB (sb v) := by
  intro c hc
  simp only [sb, List.mem_cons, List.not_mem_nil, or_false] at hc
  rcases hc with rfl | rfl | rfl | rfl <;> omega
theorem sealB_isB {b : List Int} (h : isB b) : isB (sealB b) := by
  intro c hc
  rw [sealB, List.mem_append] at hc
  rcases hc with hc | hc
  · exact h c hc
  · exact sb_isB _ c hc
theorem cut4_isB {b : List Int} (h : isB b) : isB (cut4 b) := fun c hc => h c (List.mem_of_mem_take hc)
theorem runseal_bad (b : List Int) (hb : b.length < 4) : PureF Try.prog 43 [.d (bytesL b)] (.tup [.d (.slice []), B false]) := by
  refine pure_of fun H => ?_
  refine spec_of Try.func43 (by kernel_rfl) rfl (by simp) ?_
  dsimp only [Try.f43]
  repeat' (first | (refine k_op1 ?_; (first | refine o_sv rfl (by decide) ?_ | (refine k_bin ?_; (refine o_val (v_sub (wi64 (by omega) (by omega))) rfl rfl (by decide) ?_)) | (refine k_blt ?_; (refine o_val (v_lenm rfl) rfl rfl (by decide) ?_)))) | (refine k_ops ?_; (first | refine o_go (by first | exact .inl rfl | exact .inr ⟨_, _, _, rfl, rfl, rfl⟩) ?_ | refine o_nil ?_)) | (refine k_run ?_; (first | refine r_seq ?_ | refine r_region ?_ | refine r_skip ?_ | refine r_if rfl (fun _ => ?_) (fun _ => ?_))))
  all_goals try (exfalso; omega)
  refine r_nil 2 rfl ?_
  exact r_ret Try.func43 _ (res_two rfl rfl rfl) ⟨rfl, rfl⟩
theorem runseal_s (b : List Int) (hb : b.length ≤ 100000) (hc : isB b) (h4 : 4 ≤ b.length) : PureF Try.prog 43 [.d (bytesL b)] (.tup [.d (bytesL (cut4 b)), B (okSeal b)]) := by
  refine pure_of fun H => ?_
  refine spec_of Try.func43 (by kernel_rfl) rfl (by simp) ?_
  dsimp only [Try.f43]
  have hcl : (cut4 b).length ≤ b.length := by simp [cut4]
  have hs := rseal_s (cut4 b) (by omega) (cut4_isB hc)
  have he : okSeal b = decide (strOfNums (sealB (cut4 b)) = strOfNums b) := by
    rw [okSeal, decide_eq_true h4, Bool.true_and]
    by_cases h : sealB (cut4 b) = b
    · rw [decide_eq_true h, decide_eq_true (by rw [h])]
    · rw [decide_eq_false h, decide_eq_false (fun h2 => h (str_inj (sealB_isB (cut4_isB hc)) hc h2))]
  have hcut : (b.take ((b.length : Int) - 4).toNat) = cut4 b := by rw [cut4]; congr 1; omega
  rw [he]
  have hql : (b.take ((b.length : Int) - 4).toNat).length ≤ 100000 := by rw [hcut]; omega
  rw [← hcut] at hs ⊢
  repeat' (first | (refine k_op1 ?_; (first | refine o_sv rfl (by decide) ?_ | (refine k_bin ?_; (refine o_val (v_sub (wi64 (by omega) (by omega))) rfl rfl (by decide) ?_)) | (refine k_slice ?_; (refine o_val (v_slicetm (q := b) (g := fun x : Int => [Du8 x]) rfl (by omega) (by omega) (fun _ => rfl)) rfl rfl (by decide) ?_)) | (refine k_blt ?_; (refine o_val (v_lenm rfl) rfl rfl (by decide) ?_)))) | (refine k_ops ?_; (first | refine o_go (by first | exact .inl rfl | exact .inr ⟨_, _, _, rfl, rfl, rfl⟩) ?_ | refine o_nil ?_)) | (refine k_run ?_; (first | refine r_seq ?_ | refine r_region ?_ | refine r_skip ?_ | refine r_tr ?_ | refine r_if rfl (fun _ => ?_) (fun _ => ?_))) | (refine k_tr ?_; (first | (refine kt_end ?_; refine t_end mix (by kernel_rfl) ?_) | refine t_val (v_tostr (l := sealB (b.take ((b.length : Int) - 4).toNat)) rfl rfl rfl) (by first | exact rfl | exact ⟨_, rfl, rfl, rfl⟩) rfl rfl (by decide) ?_ | refine t_val (v_tostr (l := b) rfl rfl rfl) (by first | exact rfl | exact ⟨_, rfl, rfl, rfl⟩) rfl rfl (by decide) ?_ | refine t_sv rfl (by first | exact rfl | exact ⟨_, rfl, rfl, rfl⟩) (by decide) ?_ | (refine kt_blt ?_; (refine t_appn (r := b.take ((b.length : Int) - 4).toNat) (g := fun x : Int => [Du8 x]) (by first | exact rfl | exact ⟨_, rfl, rfl, rfl⟩) rfl rfl rfl (fun _ => rfl) rfl rfl (by decide) (by omega) ?_)) | (refine kt_call ?_; (refine t_fn hs (by first | exact rfl | exact ⟨_, rfl, rfl, rfl⟩) rfl (by decide) ?_)))))
  all_goals try (exfalso; omega)
  refine r_freeze 14 rfl ?_
  exact r_ret Try.func43 _ (res_two rfl rfl rfl) ⟨rfl, rfl⟩
end Go.Proofs.Ytiapeheclfkdmaa
namespace Go.Proofs.Ytiapeheclfkdmaa
open Go.Ab Go.Stab
set_option maxHeartbeats 20000000
set_option maxRecDepth 100000
set_option linter.unusedVariables false
set_option linter.unusedSimpArgs false
attribute [local irreducible] Run Ops Op1 Does Val Tr PureF Eff1 NF Rel EffV EffM

theorem beq_s (a b : List Int) (ha : isB a) (hb : isB b) : PureF Try.prog 40 [.d (bytesL a), .d (bytesL b)] (B (decide (a = b))) := by
  refine pure_of fun H => ?_
  refine spec_of Try.func40 (by kernel_rfl) rfl (by simp) ?_
  dsimp only [Try.f40]
  have he : decide (a = b) = decide (strOfNums a = strOfNums b) := by
    by_cases h : a = b
    · rw [decide_eq_true h, decide_eq_true (by rw [h])]
    · rw [decide_eq_false h, decide_eq_false (fun h2 => h (str_inj ha hb h2))]
  rw [he]
  repeat' (first | (refine k_op1 ?_; (first | refine o_val (v_tostr (l := a) rfl rfl rfl) rfl rfl (by decide) ?_ | refine o_val (v_tostr (l := b) rfl rfl rfl) rfl rfl (by decide) ?_ | refine o_sv rfl (by decide) ?_)) | (refine k_ops ?_; (first | refine o_go (by first | exact .inl rfl | exact .inr ⟨_, _, _, rfl, rfl, rfl⟩) ?_ | refine o_nil ?_)) | (refine k_run ?_; (first | refine r_seq ?_ | refine r_region ?_)))
  exact r_ret Try.func40 _ (res_one rfl rfl) ⟨rfl, rfl⟩
theorem tk_bound : ∀ (b : List Int) (i : Nat) (v : Int), (tk i v b).2.2 = 0 → (i : Int) + 1 ≤ (tk i v b).2.1 ∧ (tk i v b).2.1 ≤ i + b.length
  | [], i, v, h => by simp [tk] at h
  | c :: r, i, v, h => by
    rw [tk] at h ⊢
    split at h
    · simp at h
    · rename_i h1
      rw [if_neg h1]
      split at h
      · rename_i h2
        rw [if_pos h2]
        split at h
        · simp at h
        · rename_i h3
          rw [if_neg h3]
          simp only [List.length_cons]; omega
      · rename_i h2
        rw [if_neg h2]
        have := tk_bound r (i + 1) _ h
        simp only [List.length_cons]; omega
/-- all numbers of some bytes -/
def nums : Nat → List Int → Option (List Int)
  | _, [] => some []
  | 0, _ :: _ => none
  | f + 1, b => if (tk 0 0 b).2.2 ≠ 0 ∨ 2147483647 < (tk 0 0 b).1 then none else (nums f (b.drop (tk 0 0 b).2.1.toNat)).map ((tk 0 0 b).1 :: ·)
theorem nums_nil (f : Nat) : nums f [] = some [] := by cases f <;> rfl
theorem nums_step {f : Nat} {b : List Int} (hb : b ≠ []) : nums (f + 1) b = if (tk 0 0 b).2.2 ≠ 0 ∨ 2147483647 < (tk 0 0 b).1 then none else (nums f (b.drop (tk 0 0 b).2.1.toNat)).map ((tk 0 0 b).1 :: ·) := by
  cases b with
  | nil => exact absurd rfl hb
  | cons x r => rfl
def numsR (o : Option (List Int)) : PV := match o with
  | some l => .tup [.d (u64s l), B true]
  | none => .tup [.d (.slice []), B false]
abbrev urow (q : List Int) : Blk := .row 59 1 (q.map fun x => [Du64 x])
theorem numbers_s (b : List Int) (hb : b.length ≤ 100000) (hc : isB b) : PureF Try.prog 39 [.d (bytesL b)] (numsR (nums b.length b)) := by
  refine pure_of fun H => ?_
  refine spec_of Try.func39 (by kernel_rfl) rfl (by simp) ?_
  dsimp only [Try.f39]
  repeat' (first | (refine k_op1 ?_; (refine o_sv rfl (by decide) ?_)) | (refine k_ops ?_; (first | refine o_go (by first | exact .inl rfl | exact .inr ⟨_, _, _, rfl, rfl, rfl⟩) ?_ | refine o_nil ?_)) | (refine k_run ?_; (first | refine r_seq ?_ | refine r_region ?_ | refine r_block ?_)))
  all_goals try (exfalso; omega)
  refine r_slot_row 4 1000 59 1 rfl rfl rfl ?_
  refine r_loop ?_
  refine r_less (r_inv (fun q : Nat × List Int × List Int => ⟨31, [(0, .d (bytesL q.2.1)), (2, .d (.lit nilS)), (3, B false), (4, .ref (0, 1000))], [(1000, urow q.2.2)], H⟩) (fun q => q.2.1.length ≤ q.1 ∧ q.1 + q.2.2.length ≤ b.length ∧ isB q.2.1 ∧ (nums q.1 q.2.1).map (q.2.2 ++ ·) = nums b.length b) (fun q => q.1) ?_ (b.length, b, []) ⟨Nat.le_refl _, by simp, hc, by simp⟩) rfl rfl
  rintro ⟨f, r, l⟩ ⟨h1, h2, h3, h4⟩ ih
  simp only at h1 h2 h3 h4 ih ⊢
  by_cases hr : r = []
  · subst hr
    rw [nums_nil] at h4
    rw [← h4]
    repeat' (first | (refine k_op1 ?_; (first | refine o_sv rfl (by decide) ?_ | (refine k_blt ?_; (refine o_val (v_lenm rfl) rfl rfl (by decide) ?_)))) | (refine k_ops ?_; (first | refine o_go (by first | exact .inl rfl | exact .inr ⟨_, _, _, rfl, rfl, rfl⟩) ?_ | refine o_nil ?_)) | (refine k_run ?_; (first | refine r_seq ?_ | refine r_region ?_ | refine r_false rfl ?_ | refine r_exit rfl ?_)))
    all_goals try (exfalso; simp at *; omega)
    refine r_freeze 1000 rfl ?_
    refine r_ret Try.func39 _ (res_two rfl rfl rfl) ⟨?_, rfl⟩
    show _ = RV.v (numsR (some (l ++ [])))
    rw [List.append_nil]; rfl
  · have hrl : 0 < r.length := List.length_pos_iff.2 hr
    obtain ⟨g, rfl⟩ : ∃ g, f = g + 1 := ⟨f - 1, by omega⟩
    rw [nums_step hr] at h4
    have ht := uvarint_s r (by omega) h3
    have hbd := tk_bound r 0 0
    obtain ⟨⟨v, n, e⟩, hv⟩ : ∃ t, tk 0 0 r = t := ⟨_, rfl⟩
    rw [hv] at h4 ht hbd
    simp only at h4 ht hbd
    by_cases he : e = 0
    · subst he
      have hbd := hbd rfl
      by_cases hbig : 2147483647 < v
      · rw [if_pos (.inr hbig)] at h4
        rw [← h4]
        repeat' (first | (refine k_op1 ?_; (first | refine o_sv rfl (by decide) ?_ | (refine k_blt ?_; (refine o_val (v_lenm rfl) rfl rfl (by decide) ?_)) | (refine k_call ?_; (refine o_fn ht rfl (by decide) ?_)))) | (refine k_ops ?_; (first | refine o_go (by first | exact .inl rfl | exact .inr ⟨_, _, _, rfl, rfl, rfl⟩) ?_ | refine o_nil ?_)) | (refine k_run ?_; (first | refine r_seq ?_ | refine r_region ?_ | refine r_skip ?_ | refine r_block ?_ | refine r_tr ?_ | refine r_if rfl (fun _ => ?_) (fun _ => ?_) | refine r_exit rfl ?_)) | (refine k_tr ?_; (first | refine t_sv rfl (by first | exact rfl | exact ⟨_, rfl, rfl, rfl⟩) (by decide) ?_ | (refine kt_blt ?_; (refine t_app1 (by first | exact rfl | exact ⟨_, rfl, rfl, rfl⟩) rfl rfl _ rfl rfl rfl rfl rfl rfl rfl (by decide) (by omega) ?_)) | (refine kt_lit ?_; (refine t_lit (by first | exact rfl | exact ⟨_, rfl, rfl, rfl⟩) rfl rfl rfl rfl rfl rfl rfl rfl (by decide) ?_)))))
        all_goals try (exfalso; omega)
        refine r_nil 2 rfl ?_
        exact r_ret Try.func39 _ (res_two rfl rfl rfl) ⟨rfl, rfl⟩
      · rw [if_neg (by simp; omega)] at h4
        repeat' (first | (refine k_op1 ?_; (first | refine o_sv rfl (by decide) ?_ | (refine k_blt ?_; (refine o_val (v_lenm rfl) rfl rfl (by decide) ?_)) | (refine k_call ?_; (refine o_fn ht rfl (by decide) ?_)))) | (refine k_ops ?_; (first | refine o_go (by first | exact .inl rfl | exact .inr ⟨_, _, _, rfl, rfl, rfl⟩) ?_ | refine o_nil ?_)) | (refine k_run ?_; (first | refine r_seq ?_ | refine r_region ?_ | refine r_skip ?_ | refine r_block ?_ | refine r_tr ?_ | refine r_inBlock ?_ | refine r_if rfl (fun _ => ?_) (fun _ => ?_) | refine r_exit rfl ?_)) | (refine k_tr ?_; (first | (refine kt_end ?_; refine t_end mix (by kernel_rfl) ?_) | refine t_sv rfl (by first | exact rfl | exact ⟨_, rfl, rfl, rfl⟩) (by decide) ?_ | (refine kt_slice ?_; (refine t_val (v_slicefm (q := r) (g := fun x : Int => [Du8 x]) rfl (by omega) (by omega) (fun _ => rfl)) (by first | exact rfl | exact ⟨_, rfl, rfl, rfl⟩) rfl rfl (by decide) ?_)) | (refine kt_blt ?_; (refine t_app1 (g := fun x : Int => [Du64 x]) (by first | exact rfl | exact ⟨_, rfl, rfl, rfl⟩) rfl rfl v rfl rfl rfl rfl rfl rfl rfl (by decide) (by omega) ?_)) | (refine kt_lit ?_; (refine t_lit (by first | exact rfl | exact ⟨_, rfl, rfl, rfl⟩) rfl rfl rfl rfl rfl rfl rfl rfl (by decide) ?_)))))
        all_goals try (exfalso; omega)
        refine r_ren 26 1000 rfl rfl ?_
        refine r_less (ih (g, r.drop n.toNat, l ++ [v]) ⟨by simp only [List.length_drop]; omega, by simp only [List.length_append, List.length_cons, List.length_nil]; omega, fun c hc' => h3 c (List.mem_of_mem_drop hc'), ?_⟩ (by simp only; omega)) rfl rfl
        simp only
        rw [← h4, Option.map_map]
        congr 1
        funext x
        simp
    · rw [if_pos (.inl he)] at h4
      rw [← h4]
      repeat' (first | (refine k_op1 ?_; (first | refine o_sv rfl (by decide) ?_ | (refine k_blt ?_; (refine o_val (v_lenm rfl) rfl rfl (by decide) ?_)) | (refine k_call ?_; (refine o_fn ht rfl (by decide) ?_)))) | (refine k_ops ?_; (first | refine o_go (by first | exact .inl rfl | exact .inr ⟨_, _, _, rfl, rfl, rfl⟩) ?_ | refine o_nil ?_ | refine o_no rfl rfl (by decide) ?_ | refine o_casen rfl rfl (fun _ => ?_) (fun _ => ?_))) | (refine k_run ?_; (first | refine r_seq ?_ | refine r_region ?_ | refine r_true rfl ?_ | refine r_skip ?_ | refine r_block ?_ | refine r_tr ?_ | refine r_if rfl (fun _ => ?_) (fun _ => ?_) | refine r_exit rfl ?_)) | (refine k_tr ?_; (first | refine t_sv rfl (by first | exact rfl | exact ⟨_, rfl, rfl, rfl⟩) (by decide) ?_ | (refine kt_blt ?_; (refine t_app1 (by first | exact rfl | exact ⟨_, rfl, rfl, rfl⟩) rfl rfl _ rfl rfl rfl rfl rfl rfl rfl (by decide) (by omega) ?_)) | (refine kt_lit ?_; (refine t_lit (by first | exact rfl | exact ⟨_, rfl, rfl, rfl⟩) rfl rfl rfl rfl rfl rfl rfl rfl (by decide) ?_)))))
      all_goals try (exfalso; omega)
      refine r_nil 2 rfl ?_
      exact r_ret Try.func39 _ (res_two rfl rfl rfl) ⟨rfl, rfl⟩
end Go.Proofs.Ytiapeheclfkdmaa
