/- A law holds for every input; no condition. -/
import Derived.Test.YtiapeheclfkdmaaWj
import Derived.Test.YtiapeheclfkdmaaFh
set_option linter.all false
set_option linter.unusedVariables false
set_option linter.unusedSimpArgs false
namespace Go.Stab
def polyB : BitVec 32 := 2197175160#32
def m (x : BitVec 32) : BitVec 32 := if x &&& 1#32 = 1#32 then polyB else 0#32
def stB (x : BitVec 32) : BitVec 32 := (x >>> 1) ^^^ m x
theorem lsb (x : BitVec 32) : (x &&& 1#32 = 1#32) ↔ x.getLsbD 0 = true := by
  constructor
  · intro h
    have := congrArg (fun z => BitVec.getLsbD z 0) h
    simpa using this
  · intro h
    apply BitVec.eq_of_getLsbD_eq
    intro i hi
    cases i with
    | zero => simp [h]
    | succ i => simp
theorem m_eq (x : BitVec 32) : m x = if x.getLsbD 0 then polyB else 0#32 := by
  unfold m
  by_cases h : x.getLsbD 0 = true
  · rw [if_pos ((lsb x).2 h), if_pos h]
  · rw [if_neg (fun h2 => h ((lsb x).1 h2)), if_neg h]
theorem m_xor (x y : BitVec 32) : m (x ^^^ y) = m x ^^^ m y := by
  rw [m_eq, m_eq, m_eq, BitVec.getLsbD_xor]
  cases x.getLsbD 0 <;> cases y.getLsbD 0 <;> simp
theorem st_xor (x y : BitVec 32) : stB (x ^^^ y) = stB x ^^^ stB y := by
  unfold stB
  rw [m_xor, BitVec.ushiftRight_xor_distrib]
  ac_rfl
theorem st_even (x : BitVec 32) (h : x.getLsbD 0 = false) : stB x = x >>> 1 := by
  rw [stB, m_eq, h]; simp
def st4 (x : BitVec 32) : BitVec 32 := stB (stB (stB (stB x)))
theorem st4_xor (x y : BitVec 32) : st4 (x ^^^ y) = st4 x ^^^ st4 y := by
  unfold st4; rw [st_xor, st_xor, st_xor, st_xor]
theorem split4 (x : BitVec 32) : x = (x &&& 15#32) ^^^ ((x >>> 4) <<< 4) := by
  apply BitVec.eq_of_getLsbD_eq
  intro i hi
  have h15 : (15#32).getLsbD i = decide (i < 4) := by
    revert hi
    have : ∀ i : Fin 32, (15#32).getLsbD i.val = decide (i.val < 4) := by decide
    exact fun hi => this ⟨i, hi⟩
  simp only [BitVec.getLsbD_xor, BitVec.getLsbD_and, BitVec.getLsbD_shiftLeft, BitVec.getLsbD_ushiftRight, h15]
  by_cases h4 : i < 4
  · simp [h4]
  · simp [h4, hi, show 4 + (i - 4) = i by omega]
theorem st4_high (y : BitVec 32) : st4 (y <<< 4) = (y <<< 4) >>> 4 := by
  unfold st4
  have e1 : stB (y <<< 4) = (y <<< 4) >>> 1 := st_even _ (by simp)
  have e2 : stB ((y <<< 4) >>> 1) = ((y <<< 4) >>> 1) >>> 1 := st_even _ (by simp)
  have e3 : stB (((y <<< 4) >>> 1) >>> 1) = (((y <<< 4) >>> 1) >>> 1) >>> 1 := st_even _ (by simp)
  have e4 : stB ((((y <<< 4) >>> 1) >>> 1) >>> 1) = ((((y <<< 4) >>> 1) >>> 1) >>> 1) >>> 1 := st_even _ (by simp)
  rw [e1, e2, e3, e4, ← BitVec.shiftRight_add, ← BitVec.shiftRight_add, ← BitVec.shiftRight_add]
theorem high (x : BitVec 32) : ((x >>> 4) <<< 4) >>> 4 = x >>> 4 := by
  apply BitVec.eq_of_getLsbD_eq
  intro i hi
  simp only [BitVec.getLsbD_shiftLeft, BitVec.getLsbD_ushiftRight]
  by_cases h : 4 + i < 32
  · simp [h]
  · simp [h]
    apply BitVec.getLsbD_of_ge; omega
theorem nibB (x : BitVec 32) : st4 x = (x >>> 4) ^^^ st4 (x &&& 15#32) := by
  conv => lhs; rw [split4 x, st4_xor, st4_high, high]
  rw [BitVec.xor_comm]
end Go.Stab
namespace Go.Proofs.Ytiapeheclfkdmaa
open Go.Ab Go.Stab
set_option maxHeartbeats 20000000
set_option maxRecDepth 100000
set_option linter.unusedVariables false
set_option linter.unusedSimpArgs false
attribute [local irreducible] Run Ops Op1 Does Val Tr PureF Eff1 NF Rel EffV EffM

/-- the groups of a number, of which there are at most f + 1 -/
def uvF : Nat → Int → List Int
  | 0, x => [x]
  | f + 1, x => if x < 128 then [x] else (x % 128 + 128) :: uvF f (x / 128)
def uv (x : Int) : List Int := uvF 9 x
theorem uvF_len : ∀ f x, (uvF f x).length ≤ f + 1
  | 0, x => by simp [uvF]
  | f + 1, x => by
    rw [uvF]; split
    · simp
    · have := uvF_len f (x / 128); simp; omega
theorem uvF_small : ∀ f {x : Int}, x < 128 → uvF f x = [x]
  | 0, _, _ => rfl
  | f + 1, _, h => by rw [uvF, if_pos h]
def pw : Nat → Int
  | 0 => 2
  | f + 1 => 128 * pw f
theorem pw_pos : ∀ f, 2 ≤ pw f
  | 0 => by simp [pw]
  | f + 1 => by have := pw_pos f; rw [pw]; omega
theorem pw_le : ∀ f, f ≤ 9 → pw f ≤ 18446744073709551616 := by decide
theorem or128 : ∀ y : Fin 256, orV .u8 (y.val : Int) 128 = ((y.val % 128 + 128 : Nat) : Int) := by decide +kernel
theorem or128' {x : Int} (h : 0 ≤ x) : orV .u8 (x % 256) 128 = x % 128 + 128 := by
  have h1 := or128 ⟨(x % 256).toNat, by omega⟩
  have e : (((x % 256).toNat : Nat) : Int) = x % 256 := by omega
  rw [show (((⟨(x % 256).toNat, by omega⟩ : Fin 256).val : Nat) : Int) = x % 256 from e] at h1
  rw [h1]
  show (((x % 256).toNat % 128 + 128 : Nat) : Int) = _
  omega
theorem wu8 {x : Int} (h1 : 0 ≤ x) (h2 : x < 256) : IntKind.u8.wrap x = x := by
  simp [IntKind.wrap, IntKind.bits, IntKind.signed]; omega
theorem wu8m (x : Int) : IntKind.u8.wrap x = x % 256 := by simp [IntKind.wrap, IntKind.bits, IntKind.signed]
abbrev brow (q : List Int) : Blk := .row 5 1 (q.map fun x => [Du8 x])
theorem shr7 {x : Int} (h : 0 ≤ x) : shrV .u64 x 7 = x / 128 := by
  rw [shrV_eq h (by decide)]; rfl
theorem putuv_s (b : List Int) (v : Int) (h0 : 0 ≤ v) (h1 : v < 18446744073709551616) (hb : b.length ≤ 100000) : PureF Try.prog 36 [.d (bytesL b), .d (Du64 v)] (.d (bytesL (b ++ uv v))) := by
  refine pure_of fun H => ?_
  refine spec_of Try.func36 (by kernel_rfl) rfl (by simp) ?_
  dsimp only [Try.f36]
  repeat' (first | (refine k_op1 ?_; (first | refine o_sv rfl (by decide) ?_ | (refine k_bin ?_; (refine o_val (v_add (wi64 (by omega) (by omega))) rfl rfl (by decide) ?_)) | (refine k_blt ?_; (first | refine o_copyd (zs := b.map fun x => [Du8 x]) rfl rfl rfl rfl (by decide) rfl (by simp) (by simp) ?_ | refine o_val (v_lenm rfl) rfl rfl (by decide) ?_)) | refine o_makec (xs := (List.replicate b.length (0 : Int)).map fun x => [Du8 x]) rfl rfl (by omega) (by omega) (by omega) (by decide) rfl rfl (by decide) (by simp) ?_)) | (refine k_ops ?_; (first | refine o_go (by first | exact .inl rfl | exact .inr ⟨_, _, _, rfl, rfl, rfl⟩) ?_ | refine o_nil ?_)) | (refine k_run ?_; (first | refine r_seq ?_ | refine r_region ?_ | refine r_block ?_)))
  all_goals try (exfalso; omega)
  refine r_less (tm' := [(1, .d (Du64 v)), (5, .ref (0, 11))]) (hp' := [(11, brow b)]) ?_ rfl rfl
  refine r_ren 11 1000 rfl rfl ?_
  refine r_loop ?_
  refine r_less (r_inv (fun q : Nat × List Int × Int => ⟨30, [(1, .d (Du64 q.2.2)), (5, .ref (0, 1000))], [(1000, brow q.2.1)], H⟩) (fun q => q.1 ≤ 9 ∧ 0 ≤ q.2.2 ∧ q.2.2 < pw q.1 ∧ q.2.1 ++ uvF q.1 q.2.2 = b ++ uv v ∧ q.2.1.length + q.1 ≤ 100009) (fun q => q.1) ?_ (9, b, v) ⟨Nat.le_refl 9, h0, h1, rfl, by simp only; omega⟩) rfl rfl
  rintro ⟨f, row, x⟩ ⟨i1, i2, i3, i4, i5⟩ ih
  simp only at i1 i2 i3 i4 i5 ih ⊢
  have hpw := pw_le f i1
  by_cases hx : 128 ≤ x
  · obtain ⟨g, rfl⟩ : ∃ g, f = g + 1 := by
      cases f with
      | zero => simp only [pw] at i3; omega
      | succ g => exact ⟨g, rfl⟩
    rw [pw] at i3 hpw
    rw [uvF, if_neg (by omega)] at i4
    repeat' (first | (refine k_op1 ?_; (first | refine o_sv rfl (by decide) ?_ | (refine k_bin ?_; (first | refine o_val v_bor rfl rfl (by decide) ?_ | refine o_val (v_shr (by omega)) rfl rfl (by decide) ?_)) | (refine k_blt ?_; (refine o_app1 rfl rfl _ rfl rfl rfl rfl rfl rfl rfl (by decide) (by omega) ?_)) | (refine k_lit ?_; (refine o_lit rfl rfl rfl rfl rfl rfl rfl rfl (by decide) ?_)) | (refine k_conv ?_; (refine o_val (v_convW rfl rfl (wu8m x)) rfl rfl (by decide) ?_)))) | (refine k_ops ?_; (first | refine o_go (by first | exact .inl rfl | exact .inr ⟨_, _, _, rfl, rfl, rfl⟩) ?_ | refine o_nil ?_)) | (refine k_run ?_; (first | refine r_seq ?_ | refine r_region ?_ | refine r_skip ?_ | refine r_block ?_ | refine r_inBlock ?_ | refine r_if rfl (fun _ => ?_) (fun _ => ?_) | refine r_exit rfl ?_)))
    all_goals try (exfalso; omega)
    refine r_ren 22 1000 rfl rfl ?_
    refine r_less (ih (g, row ++ [x % 128 + 128], x / 128) ⟨by simp only; omega, by simp only; omega, by simp only; omega, by simp only; rw [← i4, List.append_assoc]; rfl, by simp only [List.length_append, List.length_cons, List.length_nil]; omega⟩ (by simp only; omega)) ?_ ?_
    · simp only; rw [← shr7 i2]; rfl
    · simp only; rw [← or128' i2]; rfl
  · repeat' (first | (refine k_op1 ?_; (first | refine o_sv rfl (by decide) ?_ | (refine k_blt ?_; (refine o_app1 (g := fun x : Int => [Du8 x]) rfl rfl x rfl rfl rfl rfl rfl rfl rfl (by decide) (by omega) ?_)) | (refine k_lit ?_; (refine o_lit rfl rfl rfl rfl rfl rfl rfl rfl (by decide) ?_)) | (refine k_conv ?_; (refine o_val (v_conv rfl rfl (wu8 (by omega) (by omega))) rfl rfl (by decide) ?_)))) | (refine k_ops ?_; (first | refine o_go (by first | exact .inl rfl | exact .inr ⟨_, _, _, rfl, rfl, rfl⟩) ?_ | refine o_nil ?_)) | (refine k_run ?_; (first | refine r_seq ?_ | refine r_region ?_ | refine r_skip ?_ | refine r_block ?_ | refine r_if rfl (fun _ => ?_) (fun _ => ?_) | refine r_exit rfl ?_)))
    all_goals try (exfalso; omega)
    refine r_freeze 29 rfl ?_
    refine r_ret Try.func36 _ (res_one rfl rfl) ⟨?_, rfl⟩
    rw [← i4, uvF_small f (by omega)]; rfl
theorem ruv_s (v : Int) (h0 : 0 ≤ v) (h1 : v < 18446744073709551616) : PureF Try.prog 41 [.d (Du64 v)] (.d (bytesL (uv v))) := by
  refine pure_of fun H => ?_
  refine spec_of Try.func41 (by kernel_rfl) rfl (by simp) ?_
  dsimp only [Try.f41]
  repeat' (first | (refine k_op1 ?_; (refine o_sv rfl (by decide) ?_)) | (refine k_ops ?_; (first | refine o_go (by first | exact .inl rfl | exact .inr ⟨_, _, _, rfl, rfl, rfl⟩) ?_ | refine o_nil ?_)) | (refine k_run ?_; (first | refine r_seq ?_ | refine r_region ?_ | refine r_block ?_)))
  all_goals try (exfalso; omega)
  refine r_slot_row 3 1000 5 1 rfl rfl rfl ?_
  refine r_loop ?_
  refine r_less (r_inv (fun q : Nat × List Int × Int => ⟨20, [(0, .d (Du64 q.2.2)), (3, .ref (0, 1000))], [(1000, brow q.2.1)], H⟩) (fun q => q.1 ≤ 9 ∧ 0 ≤ q.2.2 ∧ q.2.2 < pw q.1 ∧ q.2.1 ++ uvF q.1 q.2.2 = uv v ∧ q.2.1.length + q.1 ≤ 9) (fun q => q.1) ?_ (9, [], v) ⟨Nat.le_refl 9, h0, h1, rfl, by simp⟩) rfl rfl
  rintro ⟨f, row, x⟩ ⟨i1, i2, i3, i4, i5⟩ ih
  simp only at i1 i2 i3 i4 i5 ih ⊢
  have hpw := pw_le f i1
  by_cases hx : 128 ≤ x
  · obtain ⟨g, rfl⟩ : ∃ g, f = g + 1 := by
      cases f with
      | zero => simp only [pw] at i3; omega
      | succ g => exact ⟨g, rfl⟩
    rw [pw] at i3 hpw
    rw [uvF, if_neg (by omega)] at i4
    repeat' (first | (refine k_op1 ?_; (first | refine o_sv rfl (by decide) ?_ | (refine k_bin ?_; (first | refine o_val (v_add (wu8 (by omega) (by omega))) rfl rfl (by decide) ?_ | refine o_val (v_quoe (c := x / 128) (by omega) (by omega) (wu64 (by omega) (by omega)) rfl) rfl rfl (by decide) ?_ | refine o_val (v_rem (by omega) (by omega)) rfl rfl (by decide) ?_)) | (refine k_blt ?_; (first | refine o_app1 (g := fun x : Int => [Du8 x]) rfl rfl (x % 128 + 128) rfl rfl rfl rfl rfl rfl rfl (by decide) (by omega) ?_ | refine o_app1 rfl rfl _ rfl rfl rfl rfl rfl rfl rfl (by decide) (by omega) ?_)) | (refine k_lit ?_; (refine o_lit rfl rfl rfl rfl rfl rfl rfl rfl (by decide) ?_)) | (refine k_conv ?_; (refine o_val (v_conv rfl rfl (wu8 (by omega) (by omega))) rfl rfl (by decide) ?_)))) | (refine k_ops ?_; (first | refine o_go (by first | exact .inl rfl | exact .inr ⟨_, _, _, rfl, rfl, rfl⟩) ?_ | refine o_nil ?_)) | (refine k_run ?_; (first | refine r_seq ?_ | refine r_region ?_ | refine r_skip ?_ | refine r_block ?_ | refine r_inBlock ?_ | refine r_if rfl (fun _ => ?_) (fun _ => ?_) | refine r_exit rfl ?_)))
    all_goals try (exfalso; omega)
    refine r_ren 12 1000 rfl rfl ?_
    exact r_less (ih (g, row ++ [x % 128 + 128], x / 128) ⟨by simp only; omega, by simp only; omega, by simp only; omega, by simp only; rw [← i4, List.append_assoc]; rfl, by simp only [List.length_append, List.length_cons, List.length_nil]; omega⟩ (by simp only; omega)) rfl rfl
  · repeat' (first | (refine k_op1 ?_; (first | refine o_sv rfl (by decide) ?_ | (refine k_blt ?_; (refine o_app1 (g := fun x : Int => [Du8 x]) rfl rfl x rfl rfl rfl rfl rfl rfl rfl (by decide) (by omega) ?_)) | (refine k_lit ?_; (refine o_lit rfl rfl rfl rfl rfl rfl rfl rfl (by decide) ?_)) | (refine k_conv ?_; (refine o_val (v_conv rfl rfl (wu8 (by omega) (by omega))) rfl rfl (by decide) ?_)))) | (refine k_ops ?_; (first | refine o_go (by first | exact .inl rfl | exact .inr ⟨_, _, _, rfl, rfl, rfl⟩) ?_ | refine o_nil ?_)) | (refine k_run ?_; (first | refine r_seq ?_ | refine r_region ?_ | refine r_skip ?_ | refine r_block ?_ | refine r_if rfl (fun _ => ?_) (fun _ => ?_) | refine r_exit rfl ?_)))
    all_goals try (exfalso; omega)
    refine r_freeze 19 rfl ?_
    refine r_ret Try.func41 _ (res_one rfl rfl) ⟨?_, rfl⟩
    rw [← i4, uvF_small f (by omega)]; rfl
end Go.Proofs.Ytiapeheclfkdmaa
namespace Go.Proofs.Ytiapeheclfkdmaa
open Go.Ab Go.Stab
set_option maxHeartbeats 20000000
set_option maxRecDepth 100000
set_option linter.unusedVariables false
set_option linter.unusedSimpArgs false
attribute [local irreducible] Run Ops Op1 Does Val Tr PureF Eff1 NF Rel EffV EffM

def tkv (v c : Int) (i : Nat) : Int := orV .u64 v (shlV .u64 (c % 128) (7 * (i : Int)))
/-- the number with which some bytes begin, its length, the error -/
def tk : Nat → Int → List Int → Int × Int × Int
  | _, _, [] => (0, 0, 10)
  | i, v, c :: r => if i = 9 ∧ c ≠ 1 then (0, 0, 9) else if c < 128 then (if c = 0 ∧ 0 < i then (0, 0, 9) else (tkv v c i, (i : Int) + 1, 0)) else tk (i + 1) (tkv v c i) r
theorem and127 : ∀ y : Fin 256, andV .u8 (y.val : Int) 127 = ((y.val % 128 : Nat) : Int) := by decide +kernel
theorem and127' {c : Int} (h0 : 0 ≤ c) (h1 : c < 256) : andV .u8 c 127 = c % 128 := by
  have h := and127 ⟨c.toNat, by omega⟩
  have e : ((c.toNat : Nat) : Int) = c := by omega
  rw [show (((⟨c.toNat, by omega⟩ : Fin 256).val : Nat) : Int) = c from e] at h
  rw [h]
  show ((c.toNat % 128 : Nat) : Int) = _
  omega
section
variable {P : Program} {ty tx ty' : TypeId} {x y z : Operand} {k0 k2 : IntKind} {a b c : Int}
theorem v_bande (he : andV k0 a b = c) : Val P (.binOp .and tx x y ty') ty [(x, I k0 a), (y, I k0 b)] [] (I k0 c) := by subst he; exact v_band
end
theorem uvarint_s (b : List Int) (hb : b.length ≤ 100000) (hc : ∀ c ∈ b, 0 ≤ c ∧ c < 256) : PureF Try.prog 55 [.d (bytesL b)] (.tup [.d (Du64 (tk 0 0 b).1), I .i64 (tk 0 0 b).2.1, I .i64 (tk 0 0 b).2.2]) := by
  refine pure_of fun H => ?_
  refine spec_of Try.func55 (by kernel_rfl) rfl (by simp) ?_
  dsimp only [Try.f55]
  repeat' (first | (refine k_op1 ?_; (first | refine o_sv rfl (by decide) ?_ | (refine k_blt ?_; (refine o_val (v_lenm rfl) rfl rfl (by decide) ?_)))) | (refine k_ops ?_; (first | refine o_go (by first | exact .inl rfl | exact .inr ⟨_, _, _, rfl, rfl, rfl⟩) ?_ | refine o_nil ?_)) | (refine k_run ?_; (first | refine r_seq ?_ | refine r_region ?_ | refine r_block ?_)))
  all_goals try (exfalso; omega)
  refine r_loop ?_
  refine r_less (r_inv (fun q : Nat × Int => ⟨40, [(2, I .u64 q.2), (3, I .i64 0), (4, I .i64 0), (7, .d (bytesL b)), (8, I .i64 b.length), (9, I .i64 (q.1 : Nat))], [], H⟩) (fun q => q.1 ≤ b.length ∧ tk q.1 q.2 (b.drop q.1) = tk 0 0 b) (fun q => b.length - q.1) ?_ (0, 0) ⟨Nat.zero_le _, rfl⟩) rfl rfl
  rintro ⟨i, v⟩ ⟨h1, h2⟩ ih
  simp only at h1 h2 ih ⊢
  by_cases hlt : i < b.length
  · obtain ⟨c, hx⟩ : ∃ c, b[i]? = some c := ⟨_, List.getElem?_eq_getElem hlt⟩
    obtain ⟨c0, c1⟩ := hc c (List.mem_of_getElem? hx)
    rw [drop_cons hx, tk] at h2
    have ha := and127' c0 c1
    by_cases hg : i = 9 ∧ c ≠ 1
    · rw [if_pos hg] at h2
      obtain ⟨rfl, hg2⟩ := hg
      repeat' (first | (refine k_op1 ?_; (first | refine o_sv rfl (by decide) ?_ | (refine k_load ?_; (refine o_val (v_loade rfl rfl rfl) rfl rfl (by decide) ?_)) | (refine k_index ?_; (refine o_val (v_index (ys := b.map fun x => [Du8 x]) rfl (by omega) (idx hx) rfl) rfl rfl (by decide) ?_)) | (refine k_bin ?_; (first | refine o_val (v_bande ha) rfl rfl (by decide) ?_ | refine o_val (v_shl (by omega)) rfl rfl (by decide) ?_ | refine o_val v_bor rfl rfl (by decide) ?_ | refine o_val (v_add (wi64 (by omega) (by omega))) rfl rfl (by decide) ?_ | refine o_val (v_mul (wi64 (by omega) (by omega))) rfl rfl (by decide) ?_)) | (refine k_conv ?_; (refine o_val (v_conv rfl rfl (wu64 (by omega) (by omega))) rfl rfl (by decide) ?_)))) | (refine k_ops ?_; (first | refine o_go (by first | exact .inl rfl | exact .inr ⟨_, _, _, rfl, rfl, rfl⟩) ?_ | refine o_nil ?_ | refine o_no rfl rfl (by decide) ?_ | refine o_casep rfl rfl (fun _ => ?_) (fun _ => ?_))) | (refine k_run ?_; (first | refine r_seq ?_ | refine r_region ?_ | refine r_true rfl ?_ | refine r_false rfl ?_ | refine r_skip ?_ | refine r_block ?_ | refine r_inBlock ?_ | refine r_if rfl (fun _ => ?_) (fun _ => ?_) | refine r_ifn rfl (fun _ => ?_) (fun _ => ?_) | refine r_exit rfl ?_)))
      all_goals try (exfalso; omega)
      refine r_ret Try.func55 _ (res_three rfl rfl rfl rfl) ⟨?_, rfl⟩
      rw [← h2]
    · rw [if_neg hg] at h2
      by_cases hsm : c < 128
      · rw [if_pos hsm] at h2
        by_cases hz : c = 0 ∧ 0 < i
        · rw [if_pos hz] at h2
          repeat' (first | (refine k_op1 ?_; (first | refine o_sv rfl (by decide) ?_ | (refine k_load ?_; (refine o_val (v_loade rfl rfl rfl) rfl rfl (by decide) ?_)) | (refine k_index ?_; (refine o_val (v_index (ys := b.map fun x => [Du8 x]) rfl (by omega) (idx hx) rfl) rfl rfl (by decide) ?_)) | (refine k_bin ?_; (first | refine o_val (v_bande ha) rfl rfl (by decide) ?_ | refine o_val (v_shl (by omega)) rfl rfl (by decide) ?_ | refine o_val v_bor rfl rfl (by decide) ?_ | refine o_val (v_add (wi64 (by omega) (by omega))) rfl rfl (by decide) ?_ | refine o_val (v_mul (wi64 (by omega) (by omega))) rfl rfl (by decide) ?_)) | (refine k_conv ?_; (refine o_val (v_conv rfl rfl (wu64 (by omega) (by omega))) rfl rfl (by decide) ?_)))) | (refine k_ops ?_; (first | refine o_go (by first | exact .inl rfl | exact .inr ⟨_, _, _, rfl, rfl, rfl⟩) ?_ | refine o_nil ?_ | refine o_no rfl rfl (by decide) ?_ | refine o_casep rfl rfl (fun _ => ?_) (fun _ => ?_))) | (refine k_run ?_; (first | refine r_seq ?_ | refine r_region ?_ | refine r_false rfl ?_ | refine r_skip ?_ | refine r_block ?_ | refine r_inBlock ?_ | refine r_if rfl (fun _ => ?_) (fun _ => ?_) | refine r_ifn rfl (fun _ => ?_) (fun _ => ?_) | refine r_exit rfl ?_)))
          all_goals try (exfalso; omega)
          all_goals (refine r_ret Try.func55 _ (res_three rfl rfl rfl rfl) ⟨?_, rfl⟩; rw [← h2])
        · rw [if_neg hz] at h2
          repeat' (first | (refine k_op1 ?_; (first | refine o_sv rfl (by decide) ?_ | (refine k_load ?_; (refine o_val (v_loade rfl rfl rfl) rfl rfl (by decide) ?_)) | (refine k_index ?_; (refine o_val (v_index (ys := b.map fun x => [Du8 x]) rfl (by omega) (idx hx) rfl) rfl rfl (by decide) ?_)) | (refine k_bin ?_; (first | refine o_val (v_bande ha) rfl rfl (by decide) ?_ | refine o_val (v_shl (by omega)) rfl rfl (by decide) ?_ | refine o_val v_bor rfl rfl (by decide) ?_ | refine o_val (v_add (wi64 (by omega) (by omega))) rfl rfl (by decide) ?_ | refine o_val (v_mul (wi64 (by omega) (by omega))) rfl rfl (by decide) ?_)) | (refine k_conv ?_; (refine o_val (v_conv rfl rfl (wu64 (by omega) (by omega))) rfl rfl (by decide) ?_)))) | (refine k_ops ?_; (first | refine o_go (by first | exact .inl rfl | exact .inr ⟨_, _, _, rfl, rfl, rfl⟩) ?_ | refine o_nil ?_ | refine o_no rfl rfl (by decide) ?_ | refine o_casep rfl rfl (fun _ => ?_) (fun _ => ?_))) | (refine k_run ?_; (first | refine r_seq ?_ | refine r_region ?_ | refine r_false rfl ?_ | refine r_skip ?_ | refine r_block ?_ | refine r_inBlock ?_ | refine r_if rfl (fun _ => ?_) (fun _ => ?_) | refine r_ifn rfl (fun _ => ?_) (fun _ => ?_) | refine r_exit rfl ?_)))
          all_goals try (exfalso; omega)
          all_goals (refine r_ret Try.func55 _ (res_three rfl rfl rfl rfl) ⟨?_, rfl⟩; rw [← h2]; rfl)
      · rw [if_neg hsm] at h2
        repeat' (first | (refine k_op1 ?_; (first | refine o_sv rfl (by decide) ?_ | (refine k_load ?_; (refine o_val (v_loade rfl rfl rfl) rfl rfl (by decide) ?_)) | (refine k_index ?_; (refine o_val (v_index (ys := b.map fun x => [Du8 x]) rfl (by omega) (idx hx) rfl) rfl rfl (by decide) ?_)) | (refine k_bin ?_; (first | refine o_val (v_bande ha) rfl rfl (by decide) ?_ | refine o_val (v_shl (by omega)) rfl rfl (by decide) ?_ | refine o_val v_bor rfl rfl (by decide) ?_ | refine o_val (v_add (wi64 (by omega) (by omega))) rfl rfl (by decide) ?_ | refine o_val (v_mul (wi64 (by omega) (by omega))) rfl rfl (by decide) ?_)) | (refine k_conv ?_; (refine o_val (v_conv rfl rfl (wu64 (by omega) (by omega))) rfl rfl (by decide) ?_)))) | (refine k_ops ?_; (first | refine o_go (by first | exact .inl rfl | exact .inr ⟨_, _, _, rfl, rfl, rfl⟩) ?_ | refine o_nil ?_ | refine o_no rfl rfl (by decide) ?_ | refine o_casep rfl rfl (fun _ => ?_) (fun _ => ?_))) | (refine k_run ?_; (first | refine r_seq ?_ | refine r_region ?_ | refine r_false rfl ?_ | refine r_skip ?_ | refine r_block ?_ | refine r_inBlock ?_ | refine r_if rfl (fun _ => ?_) (fun _ => ?_) | refine r_ifn rfl (fun _ => ?_) (fun _ => ?_) | refine r_exit rfl ?_)))
        all_goals try (exfalso; omega)
        all_goals exact r_less (ih (i + 1, tkv v c i) ⟨by simp only; omega, h2⟩ (by simp only; omega)) rfl rfl
  · obtain rfl : i = b.length := by omega
    rw [List.drop_length, tk] at h2
    repeat' (first | (refine k_op1 ?_; (refine o_sv rfl (by decide) ?_)) | (refine k_ops ?_; (first | refine o_go (by first | exact .inl rfl | exact .inr ⟨_, _, _, rfl, rfl, rfl⟩) ?_ | refine o_nil ?_)) | (refine k_run ?_; (first | refine r_seq ?_ | refine r_region ?_ | refine r_skip ?_ | refine r_block ?_ | refine r_if rfl (fun _ => ?_) (fun _ => ?_) | refine r_exit rfl ?_)))
    all_goals try (exfalso; omega)
    refine r_ret Try.func55 _ (res_three rfl rfl rfl rfl) ⟨?_, rfl⟩
    rw [← h2]
theorem take_s (b : List Int) (hb : b.length ≤ 100000) (hc : ∀ c ∈ b, 0 ≤ c ∧ c < 256) : PureF Try.prog 44 [.d (bytesL b)] (.tup [.d (Du64 (tk 0 0 b).1), I .i64 (tk 0 0 b).2.1, I .i64 (tk 0 0 b).2.2]) := by
  refine pure_of fun H => ?_
  refine spec_of Try.func44 (by kernel_rfl) rfl (by simp) ?_
  dsimp only [Try.f44]
  repeat' (first | (refine k_op1 ?_; (first | refine o_sv rfl (by decide) ?_ | (refine k_blt ?_; (refine o_val (v_lenm rfl) rfl rfl (by decide) ?_)))) | (refine k_ops ?_; (first | refine o_go (by first | exact .inl rfl | exact .inr ⟨_, _, _, rfl, rfl, rfl⟩) ?_ | refine o_nil ?_)) | (refine k_run ?_; (first | refine r_seq ?_ | refine r_region ?_ | refine r_block ?_)))
  all_goals try (exfalso; omega)
  refine r_loop ?_
  refine r_less (r_inv (fun q : Nat × Int => ⟨42, [(5, I .u64 q.2), (8, .d (bytesL b)), (9, I .i64 b.length), (10, I .i64 (q.1 : Nat))], [], H⟩) (fun q => q.1 ≤ b.length ∧ tk q.1 q.2 (b.drop q.1) = tk 0 0 b) (fun q => b.length - q.1) ?_ (0, 0) ⟨Nat.zero_le _, rfl⟩) rfl rfl
  rintro ⟨i, v⟩ ⟨h1, h2⟩ ih
  simp only at h1 h2 ih ⊢
  by_cases hlt : i < b.length
  · obtain ⟨c, hx⟩ : ∃ c, b[i]? = some c := ⟨_, List.getElem?_eq_getElem hlt⟩
    obtain ⟨c0, c1⟩ := hc c (List.mem_of_getElem? hx)
    rw [drop_cons hx, tk] at h2
    have ha := and127' c0 c1
    by_cases hg : i = 9 ∧ c ≠ 1
    · rw [if_pos hg] at h2
      obtain ⟨rfl, hg2⟩ := hg
      repeat' (first | (refine k_op1 ?_; (first | refine o_sv rfl (by decide) ?_ | (refine k_load ?_; (refine o_val (v_loade rfl rfl rfl) rfl rfl (by decide) ?_)) | (refine k_index ?_; (refine o_val (v_index (ys := b.map fun x => [Du8 x]) rfl (by omega) (idx hx) rfl) rfl rfl (by decide) ?_)) | (refine k_bin ?_; (first | refine o_val (v_rem (by omega) (by omega)) rfl rfl (by decide) ?_ | refine o_val (v_shl (by omega)) rfl rfl (by decide) ?_ | refine o_val v_bor rfl rfl (by decide) ?_ | refine o_val (v_add (wi64 (by omega) (by omega))) rfl rfl (by decide) ?_ | refine o_val (v_mul (wi64 (by omega) (by omega))) rfl rfl (by decide) ?_)) | (refine k_conv ?_; (refine o_val (v_conv rfl rfl (wu64 (by omega) (by omega))) rfl rfl (by decide) ?_)))) | (refine k_ops ?_; (first | refine o_go (by first | exact .inl rfl | exact .inr ⟨_, _, _, rfl, rfl, rfl⟩) ?_ | refine o_nil ?_ | refine o_no rfl rfl (by decide) ?_ | refine o_casep rfl rfl (fun _ => ?_) (fun _ => ?_))) | (refine k_run ?_; (first | refine r_seq ?_ | refine r_region ?_ | refine r_true rfl ?_ | refine r_false rfl ?_ | refine r_skip ?_ | refine r_block ?_ | refine r_inBlock ?_ | refine r_if rfl (fun _ => ?_) (fun _ => ?_) | refine r_exit rfl ?_)))
      all_goals try (exfalso; omega)
      all_goals (refine r_ret Try.func44 _ (res_three rfl rfl rfl rfl) ⟨?_, rfl⟩; rw [← h2])
    · rw [if_neg hg] at h2
      by_cases hsm : c < 128
      · rw [if_pos hsm] at h2
        by_cases hz : c = 0 ∧ 0 < i
        · rw [if_pos hz] at h2
          repeat' (first | (refine k_op1 ?_; (first | refine o_sv rfl (by decide) ?_ | (refine k_load ?_; (refine o_val (v_loade rfl rfl rfl) rfl rfl (by decide) ?_)) | (refine k_index ?_; (refine o_val (v_index (ys := b.map fun x => [Du8 x]) rfl (by omega) (idx hx) rfl) rfl rfl (by decide) ?_)) | (refine k_bin ?_; (first | refine o_val (v_rem (by omega) (by omega)) rfl rfl (by decide) ?_ | refine o_val (v_shl (by omega)) rfl rfl (by decide) ?_ | refine o_val v_bor rfl rfl (by decide) ?_ | refine o_val (v_add (wi64 (by omega) (by omega))) rfl rfl (by decide) ?_ | refine o_val (v_mul (wi64 (by omega) (by omega))) rfl rfl (by decide) ?_)) | (refine k_conv ?_; (refine o_val (v_conv rfl rfl (wu64 (by omega) (by omega))) rfl rfl (by decide) ?_)))) | (refine k_ops ?_; (first | refine o_go (by first | exact .inl rfl | exact .inr ⟨_, _, _, rfl, rfl, rfl⟩) ?_ | refine o_nil ?_ | refine o_no rfl rfl (by decide) ?_ | refine o_casep rfl rfl (fun _ => ?_) (fun _ => ?_))) | (refine k_run ?_; (first | refine r_seq ?_ | refine r_region ?_ | refine r_false rfl ?_ | refine r_skip ?_ | refine r_block ?_ | refine r_inBlock ?_ | refine r_if rfl (fun _ => ?_) (fun _ => ?_) | refine r_exit rfl ?_)))
          all_goals try (exfalso; omega)
          all_goals (refine r_ret Try.func44 _ (res_three rfl rfl rfl rfl) ⟨?_, rfl⟩; rw [← h2])
        · rw [if_neg hz] at h2
          repeat' (first | (refine k_op1 ?_; (first | refine o_sv rfl (by decide) ?_ | (refine k_load ?_; (refine o_val (v_loade rfl rfl rfl) rfl rfl (by decide) ?_)) | (refine k_index ?_; (refine o_val (v_index (ys := b.map fun x => [Du8 x]) rfl (by omega) (idx hx) rfl) rfl rfl (by decide) ?_)) | (refine k_bin ?_; (first | refine o_val (v_rem (by omega) (by omega)) rfl rfl (by decide) ?_ | refine o_val (v_shl (by omega)) rfl rfl (by decide) ?_ | refine o_val v_bor rfl rfl (by decide) ?_ | refine o_val (v_add (wi64 (by omega) (by omega))) rfl rfl (by decide) ?_ | refine o_val (v_mul (wi64 (by omega) (by omega))) rfl rfl (by decide) ?_)) | (refine k_conv ?_; (refine o_val (v_conv rfl rfl (wu64 (by omega) (by omega))) rfl rfl (by decide) ?_)))) | (refine k_ops ?_; (first | refine o_go (by first | exact .inl rfl | exact .inr ⟨_, _, _, rfl, rfl, rfl⟩) ?_ | refine o_nil ?_ | refine o_no rfl rfl (by decide) ?_ | refine o_casep rfl rfl (fun _ => ?_) (fun _ => ?_))) | (refine k_run ?_; (first | refine r_seq ?_ | refine r_region ?_ | refine r_false rfl ?_ | refine r_skip ?_ | refine r_block ?_ | refine r_inBlock ?_ | refine r_if rfl (fun _ => ?_) (fun _ => ?_) | refine r_exit rfl ?_)))
          all_goals try (exfalso; omega)
          all_goals (refine r_ret Try.func44 _ (res_three rfl rfl rfl rfl) ⟨?_, rfl⟩; rw [← h2]; rfl)
      · rw [if_neg hsm] at h2
        repeat' (first | (refine k_op1 ?_; (first | refine o_sv rfl (by decide) ?_ | (refine k_load ?_; (refine o_val (v_loade rfl rfl rfl) rfl rfl (by decide) ?_)) | (refine k_index ?_; (refine o_val (v_index (ys := b.map fun x => [Du8 x]) rfl (by omega) (idx hx) rfl) rfl rfl (by decide) ?_)) | (refine k_bin ?_; (first | refine o_val (v_rem (by omega) (by omega)) rfl rfl (by decide) ?_ | refine o_val (v_shl (by omega)) rfl rfl (by decide) ?_ | refine o_val v_bor rfl rfl (by decide) ?_ | refine o_val (v_add (wi64 (by omega) (by omega))) rfl rfl (by decide) ?_ | refine o_val (v_mul (wi64 (by omega) (by omega))) rfl rfl (by decide) ?_)) | (refine k_conv ?_; (refine o_val (v_conv rfl rfl (wu64 (by omega) (by omega))) rfl rfl (by decide) ?_)))) | (refine k_ops ?_; (first | refine o_go (by first | exact .inl rfl | exact .inr ⟨_, _, _, rfl, rfl, rfl⟩) ?_ | refine o_nil ?_ | refine o_no rfl rfl (by decide) ?_ | refine o_casep rfl rfl (fun _ => ?_) (fun _ => ?_))) | (refine k_run ?_; (first | refine r_seq ?_ | refine r_region ?_ | refine r_false rfl ?_ | refine r_skip ?_ | refine r_block ?_ | refine r_inBlock ?_ | refine r_if rfl (fun _ => ?_) (fun _ => ?_) | refine r_exit rfl ?_)))
        all_goals try (exfalso; omega)
        all_goals exact r_less (ih (i + 1, tkv v c i) ⟨by simp only; omega, h2⟩ (by simp only; omega)) rfl rfl
  · obtain rfl : i = b.length := by omega
    rw [List.drop_length, tk] at h2
    repeat' (first | (refine k_op1 ?_; (refine o_sv rfl (by decide) ?_)) | (refine k_ops ?_; (first | refine o_go (by first | exact .inl rfl | exact .inr ⟨_, _, _, rfl, rfl, rfl⟩) ?_ | refine o_nil ?_)) | (refine k_run ?_; (first | refine r_seq ?_ | refine r_region ?_ | refine r_skip ?_ | refine r_block ?_ | refine r_if rfl (fun _ => ?_) (fun _ => ?_) | refine r_exit rfl ?_)))
    all_goals try (exfalso; omega)
    refine r_ret Try.func44 _ (res_three rfl rfl rfl rfl) ⟨?_, rfl⟩
    rw [← h2]
end Go.Proofs.Ytiapeheclfkdmaa
namespace Go.Proofs.Ytiapeheclfkdmaa
open Go.Ab Go.Stab
set_option maxHeartbeats 20000000
set_option maxRecDepth 100000
set_option linter.unusedVariables false
set_option linter.unusedSimpArgs false
attribute [local irreducible] Run Ops Op1 Does Val Tr PureF Eff1 NF Rel EffV EffM

def st1 (v : Int) : Int := if andV .u32 v 1 = 1 then xorV .u32 (shrV .u32 v 1) 2197175160 else shrV .u32 v 1
def stN : Nat → Int → Int
  | 0, v => v
  | n + 1, v => stN n (st1 v)
theorem step_s (v : Int) (n : Nat) (hn : n ≤ 100) : PureF Try.prog 63 [.d (Du32 v), I .i64 (n : Nat)] (.d (Du32 (stN n v))) := by
  refine pure_of fun H => ?_
  refine spec_of Try.func63 (by kernel_rfl) rfl (by simp) ?_
  dsimp only [Try.f63]
  repeat' (first | (refine k_op1 ?_; (refine o_sv rfl (by decide) ?_)) | (refine k_ops ?_; (first | refine o_go (by first | exact .inl rfl | exact .inr ⟨_, _, _, rfl, rfl, rfl⟩) ?_ | refine o_nil ?_)) | (refine k_run ?_; (first | refine r_seq ?_ | refine r_region ?_ | refine r_block ?_)))
  all_goals try (exfalso; omega)
  refine r_loop ?_
  refine r_less (r_inv (fun q : Nat × Int => ⟨18, [(0, .d (Du32 q.2)), (5, I .i64 (n : Nat)), (6, I .i64 (q.1 : Nat))], [], H⟩) (fun q => q.1 ≤ n ∧ stN (n - q.1) q.2 = stN n v) (fun q => n - q.1) ?_ (0, v) ⟨Nat.zero_le _, rfl⟩) rfl rfl
  rintro ⟨i, x⟩ ⟨h1, h2⟩ ih
  simp only at h1 h2 ih ⊢
  by_cases hlt : i < n
  · rw [show n - i = (n - (i + 1)) + 1 by omega, stN] at h2
    by_cases hb : andV .u32 x 1 = 1
    · have e : st1 x = xorV .u32 (shrV .u32 x 1) 2197175160 := by rw [st1, if_pos hb]
      rw [e] at h2
      repeat' (first | (refine k_op1 ?_; (first | refine o_sv rfl (by decide) ?_ | (refine k_bin ?_; (first | refine o_val v_band rfl rfl (by decide) ?_ | refine o_val (v_shr (by omega)) rfl rfl (by decide) ?_ | refine o_val v_bxor rfl rfl (by decide) ?_ | refine o_val (v_add (wi64 (by omega) (by omega))) rfl rfl (by decide) ?_)))) | (refine k_ops ?_; (first | refine o_go (by first | exact .inl rfl | exact .inr ⟨_, _, _, rfl, rfl, rfl⟩) ?_ | refine o_nil ?_)) | (refine k_run ?_; (first | refine r_seq ?_ | refine r_region ?_ | refine r_skip ?_ | refine r_block ?_ | refine r_inBlock ?_ | refine r_if rfl (fun _ => ?_) (fun _ => ?_) | refine r_exit rfl ?_)))
      all_goals try (exfalso; omega)
      exact r_less (ih (i + 1, _) ⟨by simp only; omega, h2⟩ (by simp only; omega)) rfl rfl
    · have e : st1 x = shrV .u32 x 1 := by rw [st1, if_neg hb]
      rw [e] at h2
      repeat' (first | (refine k_op1 ?_; (first | refine o_sv rfl (by decide) ?_ | (refine k_bin ?_; (first | refine o_val v_band rfl rfl (by decide) ?_ | refine o_val (v_shr (by omega)) rfl rfl (by decide) ?_ | refine o_val v_bxor rfl rfl (by decide) ?_ | refine o_val (v_add (wi64 (by omega) (by omega))) rfl rfl (by decide) ?_)))) | (refine k_ops ?_; (first | refine o_go (by first | exact .inl rfl | exact .inr ⟨_, _, _, rfl, rfl, rfl⟩) ?_ | refine o_nil ?_)) | (refine k_run ?_; (first | refine r_seq ?_ | refine r_region ?_ | refine r_skip ?_ | refine r_block ?_ | refine r_inBlock ?_ | refine r_if rfl (fun _ => ?_) (fun _ => ?_) | refine r_exit rfl ?_)))
      all_goals try (exfalso; omega)
      exact r_less (ih (i + 1, _) ⟨by simp only; omega, h2⟩ (by simp only; omega)) rfl rfl
  · obtain rfl : i = n := by omega
    rw [Nat.sub_self, stN] at h2
    subst h2
    repeat' (first | (refine k_op1 ?_; (refine o_sv rfl (by decide) ?_)) | (refine k_ops ?_; (first | refine o_go (by first | exact .inl rfl | exact .inr ⟨_, _, _, rfl, rfl, rfl⟩) ?_ | refine o_nil ?_)) | (refine k_run ?_; (first | refine r_seq ?_ | refine r_region ?_ | refine r_skip ?_ | refine r_block ?_ | refine r_if rfl (fun _ => ?_) (fun _ => ?_) | refine r_exit rfl ?_)))
    all_goals try (exfalso; omega)
    exact r_ret Try.func63 _ (res_one rfl rfl) ⟨rfl, rfl⟩
theorem rstep_s (v : Int) : PureF Try.prog 64 [.d (Du32 v)] (.d (Du32 (stN 8 v))) := by
  refine pure_of fun H => ?_
  refine spec_of Try.func64 (by kernel_rfl) rfl (by simp) ?_
  dsimp only [Try.f64]
  repeat' (first | (refine k_op1 ?_; (refine o_sv rfl (by decide) ?_)) | (refine k_ops ?_; (first | refine o_go (by first | exact .inl rfl | exact .inr ⟨_, _, _, rfl, rfl, rfl⟩) ?_ | refine o_nil ?_)) | (refine k_run ?_; (first | refine r_seq ?_ | refine r_region ?_ | refine r_block ?_)))
  all_goals try (exfalso; omega)
  refine r_loop ?_
  refine r_less (r_inv (fun q : Nat × Int => ⟨17, [(0, .d (Du32 q.2)), (3, I .i64 (q.1 : Nat))], [], H⟩) (fun q => q.1 ≤ 8 ∧ stN (8 - q.1) q.2 = stN 8 v) (fun q => 8 - q.1) ?_ (0, v) ⟨Nat.zero_le _, rfl⟩) rfl rfl
  rintro ⟨i, x⟩ ⟨h1, h2⟩ ih
  simp only at h1 h2 ih ⊢
  by_cases hlt : i < 8
  · rw [show 8 - i = (8 - (i + 1)) + 1 by omega, stN] at h2
    by_cases hb : andV .u32 x 1 = 1
    · have e : st1 x = xorV .u32 (shrV .u32 x 1) 2197175160 := by rw [st1, if_pos hb]
      rw [e] at h2
      repeat' (first | (refine k_op1 ?_; (first | refine o_sv rfl (by decide) ?_ | (refine k_bin ?_; (first | refine o_val v_band rfl rfl (by decide) ?_ | refine o_val (v_shr (by omega)) rfl rfl (by decide) ?_ | refine o_val v_bxor rfl rfl (by decide) ?_ | refine o_val (v_add (wi64 (by omega) (by omega))) rfl rfl (by decide) ?_)))) | (refine k_ops ?_; (first | refine o_go (by first | exact .inl rfl | exact .inr ⟨_, _, _, rfl, rfl, rfl⟩) ?_ | refine o_nil ?_)) | (refine k_run ?_; (first | refine r_seq ?_ | refine r_region ?_ | refine r_skip ?_ | refine r_block ?_ | refine r_inBlock ?_ | refine r_if rfl (fun _ => ?_) (fun _ => ?_) | refine r_exit rfl ?_)))
      all_goals try (exfalso; omega)
      exact r_less (ih (i + 1, _) ⟨by simp only; omega, h2⟩ (by simp only; omega)) rfl rfl
    · have e : st1 x = shrV .u32 x 1 := by rw [st1, if_neg hb]
      rw [e] at h2
      repeat' (first | (refine k_op1 ?_; (first | refine o_sv rfl (by decide) ?_ | (refine k_bin ?_; (first | refine o_val v_band rfl rfl (by decide) ?_ | refine o_val (v_shr (by omega)) rfl rfl (by decide) ?_ | refine o_val v_bxor rfl rfl (by decide) ?_ | refine o_val (v_add (wi64 (by omega) (by omega))) rfl rfl (by decide) ?_)))) | (refine k_ops ?_; (first | refine o_go (by first | exact .inl rfl | exact .inr ⟨_, _, _, rfl, rfl, rfl⟩) ?_ | refine o_nil ?_)) | (refine k_run ?_; (first | refine r_seq ?_ | refine r_region ?_ | refine r_skip ?_ | refine r_block ?_ | refine r_inBlock ?_ | refine r_if rfl (fun _ => ?_) (fun _ => ?_) | refine r_exit rfl ?_)))
      all_goals try (exfalso; omega)
      exact r_less (ih (i + 1, _) ⟨by simp only; omega, h2⟩ (by simp only; omega)) rfl rfl
  · obtain rfl : i = 8 := by omega
    rw [Nat.sub_self, stN] at h2
    subst h2
    repeat' (first | (refine k_op1 ?_; (refine o_sv rfl (by decide) ?_)) | (refine k_ops ?_; (first | refine o_go (by first | exact .inl rfl | exact .inr ⟨_, _, _, rfl, rfl, rfl⟩) ?_ | refine o_nil ?_)) | (refine k_run ?_; (first | refine r_seq ?_ | refine r_region ?_ | refine r_false rfl ?_ | refine r_exit rfl ?_)))
    all_goals try (exfalso; omega)
    exact r_ret Try.func64 _ (res_one rfl rfl) ⟨rfl, rfl⟩
end Go.Proofs.Ytiapeheclfkdmaa
