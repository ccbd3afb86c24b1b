/- What the canonical codes are, for every input. -/
import Derived.Test.YtlgdilkmcfpjjaaWe
import Derived.Test.YtlgdilkmcfpjjaaWc
set_option linter.all false
set_option linter.unusedVariables false
set_option linter.unusedSimpArgs false
namespace Go.Proofs.Ytlgdilkmcfpjjaa
open Go.Ab Go.Srt
set_option maxHeartbeats 20000000
set_option linter.unusedVariables false
set_option linter.unusedSimpArgs false
attribute [local irreducible] Run Ops Op1 Does Val Tr PureF Eff1 NF Rel

theorem shl_small {n : Int} (h1 : 0 ≤ n) (h2 : n ≤ 15) : shlV .i64 1 n = ((2 ^ n.toNat : Nat) : Int) := by
  have : n = 0 ∨ n = 1 ∨ n = 2 ∨ n = 3 ∨ n = 4 ∨ n = 5 ∨ n = 6 ∨ n = 7 ∨ n = 8 ∨ n = 9 ∨ n = 10 ∨ n = 11 ∨ n = 12 ∨ n = 13 ∨ n = 14 ∨ n = 15 := by omega
  rcases this with h | h | h | h | h | h | h | h | h | h | h | h | h | h | h | h <;> subst h <;> rfl
theorem v_shl0 {P : Program} {ty tx ty' : TypeId} {x y : Operand} {n : Int} {k2 : IntKind} (h1 : 0 ≤ n) (h2 : n ≤ 15) : Val P (.binOp .shl tx x y ty') ty [(x, I .i64 1), (y, I k2 n)] [] (I .i64 ((2 ^ n.toNat : Nat) : Int)) := by
  have := v_shl (P := P) (ty := ty) (tx := tx) (ty' := ty') (x := x) (y := y) (k := .i64) (k2 := k2) (a := 1) (b := n) h1
  rwa [shl_small h1 h2] at this
/-- the sum of 2 to the power of 15 less the length -/
def vsum : List Int → Int → Option Int
  | [], s => some s
  | x :: r, s => if x < 0 ∨ 15 < x then none else vsum r (if 0 < x then s + ((2 ^ (15 - x).toNat : Nat) : Int) else s)
def validH (l : List Int) : Bool := if 1024 < l.length then false else match vsum l 0 with
  | none => false
  | some s => decide (s ≤ 32768)
theorem pow14 {x : Int} (h : 0 < x) : (2 ^ (15 - x).toNat : Nat) ≤ 16384 := by
  have : (2 : Nat) ^ (15 - x).toNat ≤ 2 ^ 14 := Nat.pow_le_pow_right (by omega) (by omega)
  omega

theorem valid_s (l : List Int) (hl : l.length ≤ 9223372036854775807) : PureF Try.prog 27 [.d (ints l)] (B (validH l)) := by
  refine pure_of fun H => ?_
  refine spec_of Try.func27 (by kernel_rfl) rfl (by simp) ?_
  dsimp only [Try.f27]
  by_cases h2 : 1024 < l.length
  · repeat' (first | (refine k_op1 ?_; (first | refine o_sv rfl (by decide) ?_ | (refine k_blt ?_; (refine o_val (v_lenm rfl) rfl rfl (by decide) ?_)))) | (refine k_ops ?_; (first | refine o_go (by first | exact .inl rfl | exact .inr ⟨_, _, _, rfl, rfl, rfl⟩) ?_ | refine o_nil ?_)) | (refine k_run ?_; (first | refine r_seq ?_ | refine r_region ?_ | refine r_skip ?_ | refine r_block ?_ | refine r_if rfl (fun _ => ?_) (fun _ => ?_))))
    all_goals try (exfalso; omega)
    all_goals refine r_ret Try.func27 _ (res_one rfl rfl) ⟨?_, rfl⟩
    all_goals rw [validH, if_pos h2]
  repeat' (first | (refine k_op1 ?_; (first | refine o_sv rfl (by decide) ?_ | (refine k_blt ?_; (refine o_val (v_lenm rfl) rfl rfl (by decide) ?_)))) | (refine k_ops ?_; (first | refine o_go (by first | exact .inl rfl | exact .inr ⟨_, _, _, rfl, rfl, rfl⟩) ?_ | refine o_nil ?_)) | (refine k_run ?_; (first | refine r_seq ?_ | refine r_region ?_ | refine r_skip ?_ | refine r_block ?_ | refine r_if rfl (fun _ => ?_) (fun _ => ?_))))
  all_goals try (exfalso; omega)
  refine r_loop ?_
  refine r_less (r_inv (fun q : Nat × Int => ⟨31, [(0, .d (ints l)), (3, I .i64 q.2), (9, .d (ints l)), (10, I .i64 l.length), (11, I .i64 (q.1 : Nat))], [], H⟩) (fun q => q.1 ≤ l.length ∧ 0 ≤ q.2 ∧ q.2 ≤ q.1 * 16384 ∧ vsum (l.drop q.1) q.2 = vsum l 0) (fun q => l.length - q.1) ?_ (0, 0) ⟨by simp, by simp, by simp, rfl⟩) rfl rfl
  intro ⟨k, p⟩ ⟨hk, hp0, hp, he⟩ ih
  simp only at hk hp0 hp he ih ⊢
  by_cases hlt : k < l.length
  · obtain ⟨x, hx⟩ : ∃ x, l[k]? = some x := ⟨_, List.getElem?_eq_getElem hlt⟩
    rw [drop_cons hx, vsum] at he
    by_cases hr : x < 0 ∨ 15 < x
    · rw [if_pos hr] at he
      repeat' (first | (refine k_op1 ?_; (first | refine o_sv rfl (by decide) ?_ | (refine k_load ?_; (refine o_val (v_loade rfl rfl rfl) rfl rfl (by decide) ?_)) | (refine k_index ?_; (refine o_val (v_index rfl (by omega) (idx hx) rfl) rfl rfl (by decide) ?_)) | (refine k_bin ?_; (first | refine o_val (v_add (wi64 (by omega) (by omega))) rfl rfl (by decide) ?_ | refine o_val (v_sub (wi64 (by omega) (by omega))) rfl rfl (by decide) ?_)))) | (refine k_ops ?_; (first | refine o_go (by first | exact .inl rfl | exact .inr ⟨_, _, _, rfl, rfl, rfl⟩) ?_ | refine o_nil ?_ | refine o_no rfl rfl (by decide) ?_ | refine o_casep rfl rfl (fun _ => ?_) (fun _ => ?_))) | (refine k_run ?_; (first | refine r_seq ?_ | refine r_region ?_ | refine r_true rfl ?_ | refine r_skip ?_ | refine r_block ?_ | refine r_inBlock ?_ | refine r_if rfl (fun _ => ?_) (fun _ => ?_) | refine r_exit rfl ?_)))
      all_goals try (exfalso; omega)
      all_goals refine r_ret Try.func27 _ (res_one rfl rfl) ⟨?_, rfl⟩
      all_goals rw [validH, if_neg h2, ← he]
    · rw [if_neg hr] at he
      by_cases hx0 : 0 < x
      · rw [if_pos hx0] at he
        have hp14 := pow14 hx0
        have hp15 : (0 : Int) ≤ ((2 ^ (15 - x).toNat : Nat) : Int) := Int.natCast_nonneg _
        repeat' (first | (refine k_op1 ?_; (first | refine o_sv rfl (by decide) ?_ | (refine k_load ?_; (refine o_val (v_loade rfl rfl rfl) rfl rfl (by decide) ?_)) | (refine k_index ?_; (refine o_val (v_index rfl (by omega) (idx hx) rfl) rfl rfl (by decide) ?_)) | (refine k_bin ?_; (first | refine o_val (v_shl0 (by omega) (by omega)) rfl rfl (by decide) ?_ | refine o_val (v_add (wi64 (by omega) (by omega))) rfl rfl (by decide) ?_ | refine o_val (v_sub (wi64 (by omega) (by omega))) rfl rfl (by decide) ?_)))) | (refine k_ops ?_; (first | refine o_go (by first | exact .inl rfl | exact .inr ⟨_, _, _, rfl, rfl, rfl⟩) ?_ | refine o_nil ?_ | refine o_no rfl rfl (by decide) ?_ | refine o_casep rfl rfl (fun _ => ?_) (fun _ => ?_))) | (refine k_run ?_; (first | refine r_seq ?_ | refine r_region ?_ | refine r_true rfl ?_ | refine r_skip ?_ | refine r_block ?_ | refine r_inBlock ?_ | refine r_if rfl (fun _ => ?_) (fun _ => ?_) | refine r_exit rfl ?_)))
        all_goals try (exfalso; omega)
        exact r_less (ih (k + 1, p + ((2 ^ (15 - x).toNat : Nat) : Int)) ⟨by simp only; omega, by simp only; omega, by simp only; omega, he⟩ (by simp only; omega)) rfl rfl
      · rw [if_neg hx0] at he
        repeat' (first | (refine k_op1 ?_; (first | refine o_sv rfl (by decide) ?_ | (refine k_load ?_; (refine o_val (v_loade rfl rfl rfl) rfl rfl (by decide) ?_)) | (refine k_index ?_; (refine o_val (v_index rfl (by omega) (idx hx) rfl) rfl rfl (by decide) ?_)) | (refine k_bin ?_; (first | refine o_val (v_add (wi64 (by omega) (by omega))) rfl rfl (by decide) ?_ | refine o_val (v_sub (wi64 (by omega) (by omega))) rfl rfl (by decide) ?_)))) | (refine k_ops ?_; (first | refine o_go (by first | exact .inl rfl | exact .inr ⟨_, _, _, rfl, rfl, rfl⟩) ?_ | refine o_nil ?_ | refine o_no rfl rfl (by decide) ?_ | refine o_casep rfl rfl (fun _ => ?_) (fun _ => ?_))) | (refine k_run ?_; (first | refine r_seq ?_ | refine r_region ?_ | refine r_true rfl ?_ | refine r_skip ?_ | refine r_block ?_ | refine r_inBlock ?_ | refine r_if rfl (fun _ => ?_) (fun _ => ?_) | refine r_exit rfl ?_)))
        all_goals try (exfalso; omega)
        exact r_less (ih (k + 1, p) ⟨by simp only; omega, by simp only; omega, by simp only; omega, he⟩ (by simp only; omega)) rfl rfl
  · obtain rfl : k = l.length := by omega
    rw [List.drop_length, vsum] at he
    repeat' (first | (refine k_op1 ?_; (refine o_sv rfl (by decide) ?_)) | (refine k_ops ?_; (first | refine o_go (by first | exact .inl rfl | exact .inr ⟨_, _, _, rfl, rfl, rfl⟩) ?_ | refine o_nil ?_)) | (refine k_run ?_; (first | refine r_seq ?_ | refine r_region ?_ | refine r_skip ?_ | refine r_block ?_ | refine r_if rfl (fun _ => ?_) (fun _ => ?_) | refine r_exit rfl ?_)))
    all_goals try (exfalso; omega)
    all_goals refine r_ret Try.func27 _ (res_one rfl rfl) ⟨?_, rfl⟩
    all_goals rw [validH, if_neg h2, ← he]


theorem rvalid_s (l : List Int) (hl : l.length ≤ 9223372036854775807) : PureF Try.prog 35 [.d (ints l)] (B (validH l)) := by
  refine pure_of fun H => ?_
  refine spec_of Try.func35 (by kernel_rfl) rfl (by simp) ?_
  dsimp only [Try.f35]
  by_cases h2 : 1024 < l.length
  · repeat' (first | (refine k_op1 ?_; (first | refine o_sv rfl (by decide) ?_ | (refine k_blt ?_; (refine o_val (v_lenm rfl) rfl rfl (by decide) ?_)))) | (refine k_ops ?_; (first | refine o_go (by first | exact .inl rfl | exact .inr ⟨_, _, _, rfl, rfl, rfl⟩) ?_ | refine o_nil ?_)) | (refine k_run ?_; (first | refine r_seq ?_ | refine r_region ?_ | refine r_skip ?_ | refine r_block ?_ | refine r_if rfl (fun _ => ?_) (fun _ => ?_))))
    all_goals try (exfalso; omega)
    all_goals refine r_ret Try.func35 _ (res_one rfl rfl) ⟨?_, rfl⟩
    all_goals rw [validH, if_pos h2]
  repeat' (first | (refine k_op1 ?_; (first | refine o_sv rfl (by decide) ?_ | (refine k_blt ?_; (refine o_val (v_lenm rfl) rfl rfl (by decide) ?_)))) | (refine k_ops ?_; (first | refine o_go (by first | exact .inl rfl | exact .inr ⟨_, _, _, rfl, rfl, rfl⟩) ?_ | refine o_nil ?_)) | (refine k_run ?_; (first | refine r_seq ?_ | refine r_region ?_ | refine r_skip ?_ | refine r_block ?_ | refine r_if rfl (fun _ => ?_) (fun _ => ?_))))
  all_goals try (exfalso; omega)
  refine r_loop ?_
  refine r_less (r_inv (fun q : Nat × Int => ⟨32, [(0, .d (ints l)), (3, I .i64 q.2), (9, .d (ints l)), (10, I .i64 l.length), (11, I .i64 (q.1 : Nat))], [], H⟩) (fun q => q.1 ≤ l.length ∧ 0 ≤ q.2 ∧ q.2 ≤ q.1 * 16384 ∧ vsum (l.drop q.1) q.2 = vsum l 0) (fun q => l.length - q.1) ?_ (0, 0) ⟨by simp, by simp, by simp, rfl⟩) rfl rfl
  intro ⟨k, p⟩ ⟨hk, hp0, hp, he⟩ ih
  simp only at hk hp0 hp he ih ⊢
  by_cases hlt : k < l.length
  · obtain ⟨x, hx⟩ : ∃ x, l[k]? = some x := ⟨_, List.getElem?_eq_getElem hlt⟩
    rw [drop_cons hx, vsum] at he
    by_cases hr : x < 0 ∨ 15 < x
    · rw [if_pos hr] at he
      repeat' (first | (refine k_op1 ?_; (first | refine o_sv rfl (by decide) ?_ | (refine k_load ?_; (refine o_val (v_loade rfl rfl rfl) rfl rfl (by decide) ?_)) | (refine k_index ?_; (refine o_val (v_index rfl (by omega) (idx hx) rfl) rfl rfl (by decide) ?_)) | (refine k_bin ?_; (first | refine o_val (v_add (wi64 (by omega) (by omega))) rfl rfl (by decide) ?_ | refine o_val (v_sub (wi64 (by omega) (by omega))) rfl rfl (by decide) ?_)) | (refine k_conv ?_; (refine o_val (v_conv rfl rfl (wu64 (by omega) (by omega))) rfl rfl (by decide) ?_)))) | (refine k_ops ?_; (first | refine o_go (by first | exact .inl rfl | exact .inr ⟨_, _, _, rfl, rfl, rfl⟩) ?_ | refine o_nil ?_ | refine o_no rfl rfl (by decide) ?_ | refine o_casep rfl rfl (fun _ => ?_) (fun _ => ?_))) | (refine k_run ?_; (first | refine r_seq ?_ | refine r_region ?_ | refine r_true rfl ?_ | refine r_skip ?_ | refine r_block ?_ | refine r_inBlock ?_ | refine r_if rfl (fun _ => ?_) (fun _ => ?_) | refine r_exit rfl ?_)))
      all_goals try (exfalso; omega)
      all_goals refine r_ret Try.func35 _ (res_one rfl rfl) ⟨?_, rfl⟩
      all_goals rw [validH, if_neg h2, ← he]
    · rw [if_neg hr] at he
      by_cases hx0 : 0 < x
      · rw [if_pos hx0] at he
        have hp14 := pow14 hx0
        have hp15 : (0 : Int) ≤ ((2 ^ (15 - x).toNat : Nat) : Int) := Int.natCast_nonneg _
        repeat' (first | (refine k_op1 ?_; (first | refine o_sv rfl (by decide) ?_ | (refine k_load ?_; (refine o_val (v_loade rfl rfl rfl) rfl rfl (by decide) ?_)) | (refine k_index ?_; (refine o_val (v_index rfl (by omega) (idx hx) rfl) rfl rfl (by decide) ?_)) | (refine k_bin ?_; (first | refine o_val (v_shl0 (by omega) (by omega)) rfl rfl (by decide) ?_ | refine o_val (v_add (wi64 (by omega) (by omega))) rfl rfl (by decide) ?_ | refine o_val (v_sub (wi64 (by omega) (by omega))) rfl rfl (by decide) ?_)) | (refine k_conv ?_; (refine o_val (v_conv rfl rfl (wu64 (by omega) (by omega))) rfl rfl (by decide) ?_)))) | (refine k_ops ?_; (first | refine o_go (by first | exact .inl rfl | exact .inr ⟨_, _, _, rfl, rfl, rfl⟩) ?_ | refine o_nil ?_ | refine o_no rfl rfl (by decide) ?_ | refine o_casep rfl rfl (fun _ => ?_) (fun _ => ?_))) | (refine k_run ?_; (first | refine r_seq ?_ | refine r_region ?_ | refine r_true rfl ?_ | refine r_skip ?_ | refine r_block ?_ | refine r_inBlock ?_ | refine r_if rfl (fun _ => ?_) (fun _ => ?_) | refine r_exit rfl ?_)))
        all_goals try (exfalso; omega)
        exact r_less (ih (k + 1, p + ((2 ^ (15 - x).toNat : Nat) : Int)) ⟨by simp only; omega, by simp only; omega, by simp only; omega, he⟩ (by simp only; omega)) rfl rfl
      · rw [if_neg hx0] at he
        repeat' (first | (refine k_op1 ?_; (first | refine o_sv rfl (by decide) ?_ | (refine k_load ?_; (refine o_val (v_loade rfl rfl rfl) rfl rfl (by decide) ?_)) | (refine k_index ?_; (refine o_val (v_index rfl (by omega) (idx hx) rfl) rfl rfl (by decide) ?_)) | (refine k_bin ?_; (first | refine o_val (v_add (wi64 (by omega) (by omega))) rfl rfl (by decide) ?_ | refine o_val (v_sub (wi64 (by omega) (by omega))) rfl rfl (by decide) ?_)) | (refine k_conv ?_; (refine o_val (v_conv rfl rfl (wu64 (by omega) (by omega))) rfl rfl (by decide) ?_)))) | (refine k_ops ?_; (first | refine o_go (by first | exact .inl rfl | exact .inr ⟨_, _, _, rfl, rfl, rfl⟩) ?_ | refine o_nil ?_ | refine o_no rfl rfl (by decide) ?_ | refine o_casep rfl rfl (fun _ => ?_) (fun _ => ?_))) | (refine k_run ?_; (first | refine r_seq ?_ | refine r_region ?_ | refine r_true rfl ?_ | refine r_skip ?_ | refine r_block ?_ | refine r_inBlock ?_ | refine r_if rfl (fun _ => ?_) (fun _ => ?_) | refine r_exit rfl ?_)))
        all_goals try (exfalso; omega)
        exact r_less (ih (k + 1, p) ⟨by simp only; omega, by simp only; omega, by simp only; omega, he⟩ (by simp only; omega)) rfl rfl
  · obtain rfl : k = l.length := by omega
    rw [List.drop_length, vsum] at he
    repeat' (first | (refine k_op1 ?_; (refine o_sv rfl (by decide) ?_)) | (refine k_ops ?_; (first | refine o_go (by first | exact .inl rfl | exact .inr ⟨_, _, _, rfl, rfl, rfl⟩) ?_ | refine o_nil ?_)) | (refine k_run ?_; (first | refine r_seq ?_ | refine r_region ?_ | refine r_skip ?_ | refine r_block ?_ | refine r_if rfl (fun _ => ?_) (fun _ => ?_) | refine r_exit rfl ?_)))
    all_goals try (exfalso; omega)
    all_goals refine r_ret Try.func35 _ (res_one rfl rfl) ⟨?_, rfl⟩
    all_goals rw [validH, if_neg h2, ← he]

/-- the present symbols from a place on -/
def pidx : List Int → Nat → List Nat
  | [], _ => []
  | x :: r, i => if 0 < x then i :: pidx r (i + 1) else pidx r (i + 1)
theorem pidx_mem : ∀ (l : List Int) (i j : Nat), j ∈ pidx l i → ∃ q, j = i + q ∧ ∃ x, l[q]? = some x ∧ 0 < x
  | [], i, j, h => by simp [pidx] at h
  | x :: r, i, j, h => by
    rw [pidx] at h
    by_cases hx : 0 < x
    · rw [if_pos hx, List.mem_cons] at h
      rcases h with rfl | h
      · exact ⟨0, rfl, x, by simp, hx⟩
      · obtain ⟨q, rfl, y, h1, h2⟩ := pidx_mem r (i + 1) j h
        exact ⟨q + 1, by omega, y, by simpa using h1, h2⟩
    · rw [if_neg hx] at h
      obtain ⟨q, rfl, y, h1, h2⟩ := pidx_mem r (i + 1) j h
      exact ⟨q + 1, by omega, y, by simpa using h1, h2⟩
theorem pidx_len : ∀ (l : List Int) (i : Nat), (pidx l i).length ≤ l.length
  | [], i => by simp [pidx]
  | x :: r, i => by
    have := pidx_len r (i + 1)
    rw [pidx]; split <;> simp <;> omega
def lle (l : List Int) (a b : Nat) : Bool := decide (l.getD a 0 ≤ l.getD b 0)
theorem lle_ord (l : List Int) : Srt.Ord (lle l) := ⟨fun a b c h1 h2 => by simp only [lle, decide_eq_true_eq] at *; omega, fun a b => by simp only [lle, decide_eq_true_eq]; omega⟩
/-- the present symbols in ascending order of length -/
def ordL (l : List Int) : List Nat := isort (lle l) (pidx l 0)
abbrev Ix (l : List Int) := {i : Nat // i < l.length}
def ixD {l : List Int} (i : Ix l) : D := Dint (i.1 : Nat)
def ile {l : List Int} (a b : Ix l) : Bool := lle l a.1 b.1
theorem ile_ord (l : List Int) : Srt.Ord (ile (l := l)) := ⟨fun a b c h1 h2 => (lle_ord l).trans _ _ _ h1 h2, fun a b => (lle_ord l).total _ _⟩
def icmp {l : List Int} (a b : Ix l) : Int := l.getD a.1 0 - l.getD b.1 0
theorem cmp_neg (u v : Int) : decide (u ≤ v) = !decide (v - u < 0) := by
  by_cases h : u ≤ v
  · have : ¬ v - u < 0 := by omega
    simp [h, this]
  · have : v - u < 0 := by omega
    simp [h, this]
theorem icmp_le {l : List Int} (x y : Ix l) : ile x y = !decide (icmp y x < 0) := cmp_neg _ _
theorem cmpX_s (l : List Int) (hv : ∀ x ∈ l, 0 ≤ x ∧ x ≤ 15) (sl j : Nat) (x y : Ix l) : Eff1 Try.prog 53 [.d (ixD x), .d (ixD y), .ptr (j, sl) 0] [((j, sl), .box [.d (ints l)])] [] (I .i64 (icmp x y)) := by
  refine eff_of fun H hH => ?_
  have hH0 := hH ((j, sl), .box [.d (ints l)]) (by simp)
  refine spec_of Try.func53 (by kernel_rfl) rfl (by simp) ?_
  dsimp only [Try.f53]
  have hx : l[x.1]? = some (l.getD x.1 0) := by rw [List.getElem?_eq_getElem x.2, List.getD, List.getElem?_eq_getElem x.2]; rfl
  have hy : l[y.1]? = some (l.getD y.1 0) := by rw [List.getElem?_eq_getElem y.2, List.getD, List.getElem?_eq_getElem y.2]; rfl
  have hx1 := hv _ (List.mem_of_getElem? hx)
  have hy1 := hv _ (List.mem_of_getElem? hy)
  repeat' (first | (refine k_op1 ?_; (refine o_sv rfl (by decide) ?_)) | (refine k_ops ?_; (first | refine o_go (by first | exact .inl rfl | exact .inr ⟨_, _, _, rfl, rfl, rfl⟩) ?_ | refine o_nil ?_)) | (refine k_run ?_; (first | refine r_seq ?_ | refine r_region ?_ | refine r_tr ?_)) | (refine k_tr ?_; (first | (refine kt_end ?_; refine t_end mix (by kernel_rfl) ?_) | refine t_sv rfl (by first | exact rfl | exact ⟨_, rfl, rfl, rfl⟩) (by decide) ?_ | (refine kt_load ?_; (first | refine t_val (v_load (b := .box [.d (ints l)]) rfl rfl rfl rfl) (by first | exact rfl | exact ⟨_, rfl, rfl, rfl⟩) rfl (bk1 hH0) (by decide) ?_ | refine t_val (v_loade rfl rfl rfl) (by first | exact rfl | exact ⟨_, rfl, rfl, rfl⟩) rfl rfl (by decide) ?_)) | (refine kt_index ?_; (first | refine t_val (v_index rfl (by omega) (idx hx) rfl) (by first | exact rfl | exact ⟨_, rfl, rfl, rfl⟩) rfl rfl (by decide) ?_ | refine t_val (v_index rfl (by omega) (idx hy) rfl) (by first | exact rfl | exact ⟨_, rfl, rfl, rfl⟩) rfl rfl (by decide) ?_)) | (refine kt_bin ?_; (refine t_val (v_sub (wi64 (by omega) (by omega))) (by first | exact rfl | exact ⟨_, rfl, rfl, rfl⟩) rfl rfl (by decide) ?_)))))
  exact r_ret Try.func53 _ (res_one rfl rfl) ⟨rfl, rfl⟩
theorem lift_ix (l : List Int) : ∀ q : List Nat, (∀ i ∈ q, i < l.length) → ∃ r : List (Ix l), r.map Subtype.val = q
  | [], _ => ⟨[], rfl⟩
  | x :: q, h => by
    obtain ⟨r, rfl⟩ := lift_ix l q fun y hy => h y (by simp [hy])
    exact ⟨⟨x, h x (by simp)⟩ :: r, rfl⟩
def nats (l : List Nat) : D := .slice (l.map fun i => [Dint (i : Nat)])
theorem order_s (l : List Int) (hl : l.length ≤ 1024) (hv : ∀ x ∈ l, 0 ≤ x ∧ x ≤ 15) : PureF Try.prog 45 [.d (ints l)] (.d (nats (ordL l))) := by
  refine pure_of fun H => ?_
  refine spec_of Try.func45 (by kernel_rfl) rfl (by simp) ?_
  dsimp only [Try.f45]
  have hmem := pidx_mem l 0
  repeat' (first | (refine k_op1 ?_; (first | refine o_sv rfl (by decide) ?_ | (refine k_load ?_; (refine o_val (v_load rfl rfl rfl rfl) rfl rfl (by decide) ?_)) | (refine k_blt ?_; (refine o_val (v_lenm rfl) rfl rfl (by decide) ?_)) | (refine k_box ?_; (refine o_does (d_box rfl rfl rfl rfl rfl (by decide)) ?_)))) | (refine k_ops ?_; (first | refine o_go (by first | exact .inl rfl | exact .inr ⟨_, _, _, rfl, rfl, rfl⟩) ?_ | refine o_nil ?_)) | (refine k_run ?_; (first | refine r_seq ?_ | refine r_region ?_ | refine r_block ?_)))
  refine r_slot_row 3 1000 3 1 rfl (by decide) rfl ?_
  refine r_loop ?_
  refine r_less (r_inv (fun q : Nat × List Nat => ⟨24, [(1, .ptr (0, 1) 0), (3, .ref (0, 1000)), (6, .d (ints l)), (7, I .i64 l.length), (8, I .i64 (q.1 : Nat))], [(1000, .row 3 1 (q.2.map fun i => [Dint (i : Nat)])), (1, .box [.d (ints l)])], H⟩) (fun q => q.1 ≤ l.length ∧ q.2 ++ pidx (l.drop q.1) q.1 = pidx l 0) (fun q => l.length - q.1) ?_ (0, []) ⟨by simp, rfl⟩) rfl rfl
  intro ⟨k, acc⟩ ⟨hk, he⟩ ih
  simp only at hk he ih ⊢
  have hla : acc.length ≤ 1024 := by have := congrArg List.length he; have := pidx_len l 0; simp at *; omega
  by_cases hlt : k < l.length
  · obtain ⟨x, hx⟩ : ∃ x, l[k]? = some x := ⟨_, List.getElem?_eq_getElem hlt⟩
    rw [drop_cons hx, pidx] at he
    repeat' (first | (refine k_op1 ?_; (first | refine o_sv rfl (by decide) ?_ | (refine k_load ?_; (refine o_val (v_loade rfl rfl rfl) rfl rfl (by decide) ?_)) | (refine k_index ?_; (refine o_val (v_index rfl (by omega) (idx hx) rfl) rfl rfl (by decide) ?_)) | (refine k_bin ?_; (refine o_val (v_add (wi64 (by omega) (by omega))) rfl rfl (by decide) ?_)) | (refine k_blt ?_; (refine o_app1 (g := fun i : Nat => [Dint (i : Nat)]) rfl rfl k rfl rfl rfl rfl rfl rfl rfl (by decide) (by omega) ?_)) | (refine k_lit ?_; (refine o_lit rfl rfl rfl rfl rfl rfl rfl rfl (by decide) ?_)))) | (refine k_ops ?_; (first | refine o_go (by first | exact .inl rfl | exact .inr ⟨_, _, _, rfl, rfl, rfl⟩) ?_ | refine o_nil ?_)) | (refine k_run ?_; (first | refine r_seq ?_ | refine r_region ?_ | refine r_skip ?_ | refine r_block ?_ | refine r_inBlock ?_ | refine r_if rfl (fun _ => ?_) (fun _ => ?_) | refine r_exit rfl ?_)))
    all_goals try (exfalso; omega)
    all_goals first
      | (refine r_ren 18 1000 rfl rfl ?_
         exact r_less (ih (k + 1, acc ++ [k]) ⟨by simp only; omega, by rw [if_pos (by omega)] at he; rw [← he]; simp⟩ (by simp only; omega)) rfl rfl)
      | exact r_less (ih (k + 1, acc) ⟨by simp only; omega, by rw [if_neg (by omega)] at he; exact he⟩ (by simp only; omega)) rfl rfl
  · obtain rfl : k = l.length := by omega
    rw [List.drop_length, pidx, List.append_nil] at he
    obtain ⟨q, hq⟩ := lift_ix l acc fun i hi => by
      rw [he] at hi
      obtain ⟨z, rfl, x, h1, _⟩ := hmem i hi
      have := (List.getElem?_eq_some_iff.1 h1).1
      omega
    have hC := srt_in (ixD (l := l)) (fun _ => rfl) (fun _ => rfl) 53 0 1 (.box [.d (ints l)]) (by omega) ile icmp icmp_le (cmpX_s l hv 1) (ile_ord l) q (by have := congrArg List.length hq; simp at this; omega)
    rw [show acc.map (fun i : Nat => [Dint (i : Nat)]) = q.map (fun x => [ixD x]) by rw [← hq, List.map_map]; rfl]
    repeat' (first | (refine k_op1 ?_; (first | refine o_sv rfl (by decide) ?_ | (refine k_call ?_; (refine o_effr hC rfl rfl rfl (by decide) ?_)) | refine o_mkfn rfl rfl (by decide) ?_)) | (refine k_ops ?_; (first | refine o_go (by first | exact .inl rfl | exact .inr ⟨_, _, _, rfl, rfl, rfl⟩) ?_ | refine o_nil ?_)) | (refine k_run ?_; (first | refine r_seq ?_ | refine r_region ?_ | refine r_skip ?_ | refine r_block ?_ | refine r_if rfl (fun _ => ?_) (fun _ => ?_) | refine r_exit rfl ?_)))
    all_goals try (exfalso; omega)
    refine r_freeze 1000 rfl ?_
    refine r_ret Try.func45 _ (res_one rfl rfl) ⟨?_, rfl⟩
    rw [ordL, ← he, ← hq, ← isort_map (le := ile) Subtype.val (fun x y => rfl), nats, List.map_map]; rfl
end Go.Proofs.Ytlgdilkmcfpjjaa
namespace Go.Proofs.Ytlgdilkmcfpjjaa
open Go.Ab Go.Srt
set_option maxHeartbeats 20000000
set_option linter.unusedVariables false
set_option linter.unusedSimpArgs false
attribute [local irreducible] Run Ops Op1 Does Val Tr PureF Eff1 NF Rel

/-- the next code -/
def nxt (code d : Int) : Int := shlV .u64 (IntKind.u64.wrap (code + 1)) d
def code1 (l : List Int) (i : Nat) (code before : Int) : Int := if before = 0 then 0 else nxt code (l.getD i 0 - before)
def cl (l : List Int) : List Nat → Int → Int → List Int → List Int
  | [], _, _, cs => cs
  | i :: r, code, before, cs => cl l r (code1 l i code before) (l.getD i 0) (cs.set i (code1 l i code before))
def codesH (l : List Int) : List Int := cl l (ordL l) 0 0 (List.replicate l.length 0)
theorem ordL_mem (l : List Int) : ∀ i ∈ ordL l, i < l.length ∧ 0 < l.getD i 0 := fun i hi => by
  rw [ordL] at hi
  obtain ⟨q, rfl, x, h1, h2⟩ := pidx_mem l 0 i ((isort_perm (le := lle l) _).mem_iff.1 hi)
  rw [Nat.zero_add]
  refine ⟨(List.getElem?_eq_some_iff.1 h1).1, ?_⟩
  simp [List.getD, h1, h2]
theorem codesOf_s (l : List Int) (hl : l.length ≤ 1024) (hv : ∀ x ∈ l, 0 ≤ x ∧ x ≤ 15) : PureF Try.prog 28 [.d (ints l)] (.d (u64s (codesH l))) := by
  refine pure_of fun H => ?_
  refine spec_of Try.func28 (by kernel_rfl) rfl (by simp) ?_
  dsimp only [Try.f28]
  have hom := ordL_mem l
  have hasc : Asc (lle l) (ordL l) := isort_asc (lle_ord l) _
  have hol : (ordL l).length ≤ 1024 := by rw [ordL, isort_length]; have := pidx_len l 0; omega
  repeat' (first | (refine k_op1 ?_; (first | refine o_sv rfl (by decide) ?_ | (refine k_blt ?_; (refine o_val (v_lenm rfl) rfl rfl (by decide) ?_)) | (refine k_call ?_; (refine o_fn (order_s l hl hv) rfl (by decide) ?_)) | (refine k_make ?_; (refine o_make (xs := (List.replicate l.length (0 : Int)).map fun x => [Du64 x]) rfl rfl (by omega) (by omega) rfl rfl rfl (by decide) (by simp) ?_)))) | (refine k_ops ?_; (first | refine o_go (by first | exact .inl rfl | exact .inr ⟨_, _, _, rfl, rfl, rfl⟩) ?_ | refine o_nil ?_)) | (refine k_run ?_; (first | refine r_seq ?_ | refine r_region ?_ | refine r_block ?_)))
  obtain ⟨ord, hord⟩ : ∃ ord, ordL l = ord := ⟨_, rfl⟩
  rw [hord] at hom hasc hol ⊢
  refine r_loop ?_
  refine r_less (r_inv (fun q : Nat × Int × Int × List Int => ⟨40, [(0, .d (ints l)), (3, .ref (0, 10)), (4, I .u64 q.2.1), (5, I .i64 q.2.2.1), (12, .d (nats ord)), (13, I .i64 ord.length), (14, I .i64 (q.1 : Nat))], [(10, .row 39 1 (q.2.2.2.map fun x => [Du64 x]))], H⟩)
    (fun q => q.1 ≤ ord.length ∧ q.2.2.2.length = l.length ∧ cl l (ord.drop q.1) q.2.1 q.2.2.1 q.2.2.2 = codesH l ∧ ((q.1 = 0 ∧ q.2.1 = 0 ∧ q.2.2.1 = 0) ∨ (0 < q.1 ∧ ∃ j, ord[q.1 - 1]? = some j ∧ q.2.2.1 = l.getD j 0)))
    (fun q => ord.length - q.1) ?_ (0, 0, 0, List.replicate l.length 0) ⟨by simp, by simp, by rw [codesH, hord]; rfl, .inl ⟨rfl, rfl, rfl⟩⟩) rfl rfl
  intro ⟨k, code, before, cs⟩ ⟨h1, h2, h3, h4⟩ ih
  simp only at h1 h2 h3 h4 ih ⊢
  by_cases hlt : k < ord.length
  · obtain ⟨i, hi⟩ : ∃ i, ord[k]? = some i := ⟨_, List.getElem?_eq_getElem hlt⟩
    obtain ⟨hil, hi0⟩ := hom i (List.mem_of_getElem? hi)
    have hx : l[i]? = some (l.getD i 0) := by rw [List.getElem?_eq_getElem hil, List.getD, List.getElem?_eq_getElem hil]; rfl
    have hx1 := hv _ (List.mem_of_getElem? hx)
    obtain ⟨z, hz⟩ : ∃ z, cs[i]? = some z := ⟨_, List.getElem?_eq_getElem (by omega)⟩
    have hb : 0 ≤ before ∧ before ≤ l.getD i 0 ∧ (before = 0 ↔ k = 0) ∧ (k = 0 → code = 0) := by
      rcases h4 with ⟨rfl, rfl, rfl⟩ | ⟨hk, j, hj, rfl⟩
      · refine ⟨by omega, by omega, by simp, fun _ => rfl⟩
      · have := asc_get (lle_ord l) hasc (by omega) hj hi
        simp only [lle, decide_eq_true_eq] at this
        have := (hom j (List.mem_of_getElem? hj)).2
        refine ⟨by omega, by omega, by omega, by omega⟩
    obtain ⟨hb0, hb1, hb2, hb3⟩ := hb
    rw [drop_cons hi, cl] at h3
    by_cases hk : k = 0
    · have hc1 : code1 l i code before = code := by rw [code1, if_pos (by omega), hb3 hk]
      rw [hc1] at h3
      repeat' (first | (refine k_op1 ?_; (first | refine o_sv rfl (by decide) ?_ | (refine k_load ?_; (refine o_val (v_loade rfl rfl rfl) rfl rfl (by decide) ?_)) | (refine k_index ?_; (first | refine o_val (v_index rfl (by omega) (idx hi) rfl) rfl rfl (by decide) ?_ | refine o_val (v_index rfl (by omega) (idx hx) rfl) rfl rfl (by decide) ?_ | refine o_val (v_rindex rfl (by omega) (by rw [List.length_map]; omega) rfl) rfl rfl (by decide) ?_)) | (refine k_bin ?_; (refine o_val (v_add (wi64 (by omega) (by omega))) rfl rfl (by decide) ?_)) | (refine k_store ?_; (refine o_rstorem code rfl rfl rfl rfl hz rfl rfl rfl rfl ?_)))) | (refine k_ops ?_; (first | refine o_go (by first | exact .inl rfl | exact .inr ⟨_, _, _, rfl, rfl, rfl⟩) ?_ | refine o_nil ?_)) | (refine k_run ?_; (first | refine r_seq ?_ | refine r_region ?_ | refine r_skip ?_ | refine r_block ?_ | refine r_inBlock ?_ | refine r_if rfl (fun _ => ?_) (fun _ => ?_) | refine r_exit rfl ?_)))
      all_goals try (exfalso; omega)
      exact r_less (ih (k + 1, code, l.getD i 0, cs.set i code) ⟨by simp only; omega, by simp only [List.length_set]; exact h2, h3, .inr ⟨by simp only; omega, i, by simpa using hi, rfl⟩⟩ (by simp only; omega)) rfl rfl
    · have hc1 : code1 l i code before = nxt code (l.getD i 0 - before) := by rw [code1, if_neg (by omega)]
      rw [hc1] at h3
      repeat' (first | (refine k_op1 ?_; (first | refine o_sv rfl (by decide) ?_ | (refine k_load ?_; (refine o_val (v_loade rfl rfl rfl) rfl rfl (by decide) ?_)) | (refine k_index ?_; (first | refine o_val (v_index rfl (by omega) (idx hi) rfl) rfl rfl (by decide) ?_ | refine o_val (v_index rfl (by omega) (idx hx) rfl) rfl rfl (by decide) ?_ | refine o_val (v_rindex rfl (by omega) (by rw [List.length_map]; omega) rfl) rfl rfl (by decide) ?_)) | (refine k_bin ?_; (first | refine o_val (v_addw (k := .u64)) rfl rfl (by decide) ?_ | refine o_val (v_shl (by omega)) rfl rfl (by decide) ?_ | refine o_val (v_add (wi64 (by omega) (by omega))) rfl rfl (by decide) ?_ | refine o_val (v_sub (wi64 (by omega) (by omega))) rfl rfl (by decide) ?_)) | (refine k_store ?_; (refine o_rstorem (nxt code (l.getD i 0 - before)) rfl rfl rfl rfl hz rfl rfl rfl rfl ?_)))) | (refine k_ops ?_; (first | refine o_go (by first | exact .inl rfl | exact .inr ⟨_, _, _, rfl, rfl, rfl⟩) ?_ | refine o_nil ?_)) | (refine k_run ?_; (first | refine r_seq ?_ | refine r_region ?_ | refine r_skip ?_ | refine r_block ?_ | refine r_inBlock ?_ | refine r_if rfl (fun _ => ?_) (fun _ => ?_) | refine r_exit rfl ?_)))
      all_goals try (exfalso; omega)
      exact r_less (ih (k + 1, nxt code (l.getD i 0 - before), l.getD i 0, cs.set i (nxt code (l.getD i 0 - before))) ⟨by simp only; omega, by simp only [List.length_set]; exact h2, h3, .inr ⟨by simp only; omega, i, by simpa using hi, rfl⟩⟩ (by simp only; omega)) rfl rfl
  · obtain rfl : k = ord.length := by omega
    rw [List.drop_length, cl] at h3
    repeat' (first | (refine k_op1 ?_; (refine o_sv rfl (by decide) ?_)) | (refine k_ops ?_; (first | refine o_go (by first | exact .inl rfl | exact .inr ⟨_, _, _, rfl, rfl, rfl⟩) ?_ | refine o_nil ?_)) | (refine k_run ?_; (first | refine r_seq ?_ | refine r_region ?_ | refine r_skip ?_ | refine r_block ?_ | refine r_if rfl (fun _ => ?_) (fun _ => ?_) | refine r_exit rfl ?_)))
    all_goals try (exfalso; omega)
    refine r_freeze 10 rfl ?_
    refine r_ret Try.func28 _ (res_one rfl rfl) ⟨?_, rfl⟩
    rw [← h3]; rfl
theorem vsum_spec : ∀ (l : List Int) (s t : Int), vsum l s = some t → ∀ x ∈ l, 0 ≤ x ∧ x ≤ 15
  | [], s, t, _, x, hx => by simp at hx
  | y :: r, s, t, h, x, hx => by
    rw [vsum] at h
    by_cases hr : y < 0 ∨ 15 < y
    · rw [if_pos hr] at h; cases h
    · rw [if_neg hr] at h
      rw [List.mem_cons] at hx
      rcases hx with rfl | hx
      · omega
      · exact vsum_spec r _ t h x hx
theorem validH_ok {l : List Int} (h : validH l = true) : l.length ≤ 1024 ∧ (∀ x ∈ l, 0 ≤ x ∧ x ≤ 15) ∧ ∃ s, vsum l 0 = some s ∧ s ≤ 32768 := by
  rw [validH] at h
  by_cases h1 : 1024 < l.length
  · rw [if_pos h1] at h; cases h
  rw [if_neg h1] at h
  cases hs : vsum l 0 with
  | none => rw [hs] at h; cases h
  | some s => rw [hs] at h; exact ⟨by omega, vsum_spec l 0 s hs, s, rfl, by simpa using h⟩
def codesR (l : List Int) : List Int × Int := if validH l then (codesH l, 0) else ([], 1)
theorem codes_s (l : List Int) (hl : l.length ≤ 9223372036854775807) : PureF Try.prog 19 [.d (ints l)] (.tup [.d (u64s (codesR l).1), I .i64 (codesR l).2]) := by
  refine pure_of fun H => ?_
  refine spec_of Try.func19 (by kernel_rfl) rfl (by simp) ?_
  dsimp only [Try.f19]
  cases hv : validH l with
  | false =>
    have hc := valid_s l hl
    rw [hv] at hc
    repeat' (first | (refine k_op1 ?_; (first | refine o_sv rfl (by decide) ?_ | (refine k_call ?_; (refine o_fn hc rfl (by decide) ?_)))) | (refine k_ops ?_; (first | refine o_go (by first | exact .inl rfl | exact .inr ⟨_, _, _, rfl, rfl, rfl⟩) ?_ | refine o_nil ?_)) | (refine k_run ?_; (first | refine r_seq ?_ | refine r_region ?_ | refine r_true rfl ?_)))
    refine r_nil 2 rfl ?_
    refine r_ret Try.func19 _ (res_two rfl rfl rfl) ⟨?_, rfl⟩
    rw [codesR, hv]; rfl
  | true =>
    obtain ⟨h1, h2, _⟩ := validH_ok hv
    have hc := valid_s l hl
    rw [hv] at hc
    repeat' (first | (refine k_op1 ?_; (first | refine o_sv rfl (by decide) ?_ | (refine k_call ?_; (first | refine o_fn hc rfl (by decide) ?_ | refine o_fn (codesOf_s l h1 h2) rfl (by decide) ?_)))) | (refine k_ops ?_; (first | refine o_go (by first | exact .inl rfl | exact .inr ⟨_, _, _, rfl, rfl, rfl⟩) ?_ | refine o_nil ?_)) | (refine k_run ?_; (first | refine r_seq ?_ | refine r_region ?_ | refine r_false rfl ?_ | refine r_skip ?_)))
    refine r_ret Try.func19 _ (res_two rfl rfl rfl) ⟨?_, rfl⟩
    rw [codesR, hv]; rfl
end Go.Proofs.Ytlgdilkmcfpjjaa
namespace Go.Proofs.Ytlgdilkmcfpjjaa
open Go.Ab Go.Srt
set_option maxHeartbeats 20000000
set_option linter.unusedVariables false
set_option linter.unusedSimpArgs false
attribute [local irreducible] Run Ops Op1 Does Val Tr PureF Eff1 NF Rel

/-- the places with a length, from a place on -/
def ieq (n : Int) : List Int → Nat → List Nat
  | [], _ => []
  | x :: r, i => if x = n then i :: ieq n r (i + 1) else ieq n r (i + 1)
def ordF (l : List Int) : Nat → Nat → List Nat
  | 0, _ => []
  | f + 1, n => ieq (n : Nat) l 0 ++ ordF l f (n + 1)
theorem ieq_filter (l0 : List Int) (n : Int) (hn : 0 < n) : ∀ (l : List Int) (i : Nat), (∀ j, l[j]? = l0[i + j]?) → ieq n l i = (pidx l i).filter fun q => decide (l0.getD q 0 = n)
  | [], i, _ => rfl
  | x :: r, i, h => by
    have h0 : l0.getD i 0 = x := by have := h 0; simp at this; simp [List.getD, ← this]
    have hr := ieq_filter l0 n hn r (i + 1) fun j => by have := h (j + 1); simp at this; rw [this]; congr 1; omega
    rw [ieq, pidx]
    by_cases hx : x = n
    · rw [if_pos hx, if_pos (by omega), List.filter_cons, if_pos (by rw [h0]; simpa using hx), hr]
    · rw [if_neg hx]
      by_cases hp : 0 < x
      · rw [if_pos hp, List.filter_cons, if_neg (by rw [h0]; simpa using hx), hr]
      · rw [if_neg hp, hr]
theorem insR_skip {α : Type} {le : α → α → Bool} (y : α) : ∀ S1 S2 : List α, (∀ s ∈ S1, le s y = true) → insR le y (S1 ++ S2) = S1 ++ insR le y S2
  | [], S2, _ => rfl
  | s :: S1, S2, h => by rw [List.cons_append, insR, if_pos (h s (by simp)), insR_skip y S1 S2 fun a ha => h a (by simp [ha])]; rfl
/-- lists by ascending keys -/
def flatF (k : Nat → Int) (q : List Nat) : Nat → Nat → List Nat
  | 0, _ => []
  | f + 1, n => q.filter (fun i => decide (k i = (n : Nat))) ++ flatF k q f (n + 1)
theorem flatF_ge (k : Nat → Int) (q : List Nat) : ∀ (f n : Nat), ∀ i ∈ flatF k q f n, (n : Int) ≤ k i
  | 0, n, i, h => by simp [flatF] at h
  | f + 1, n, i, h => by
    rw [flatF, List.mem_append] at h
    rcases h with h | h
    · rw [List.mem_filter] at h; have := h.2; simp at this; omega
    · have := flatF_ge k q f (n + 1) i h; omega
theorem flatF_none (k : Nat → Int) (q : List Nat) (y : Nat) : ∀ (f n : Nat), k y < n → flatF k (q ++ [y]) f n = flatF k q f n
  | 0, n, _ => rfl
  | f + 1, n, h => by
    rw [flatF, flatF, flatF_none k q y f (n + 1) (by omega), List.filter_append]
    rw [show [y].filter (fun i => decide (k i = (n : Nat))) = [] by rw [List.filter_cons, if_neg (by simp; omega)]; rfl, List.append_nil]
theorem flatF_snoc (k : Nat → Int) (q : List Nat) (y : Nat) : ∀ (f n : Nat), (n : Int) ≤ k y → k y < n + f → flatF k (q ++ [y]) f n = insR (fun a b => decide (k a ≤ k b)) y (flatF k q f n)
  | 0, n, h1, h2 => by omega
  | f + 1, n, h1, h2 => by
    rw [flatF, flatF, List.filter_append]
    by_cases hy : k y = n
    · rw [show [y].filter (fun i => decide (k i = (n : Nat))) = [y] by rw [List.filter_cons, if_pos (by simpa using hy)]; rfl]
      rw [flatF_none k q y f (n + 1) (by omega), insR_mid, List.append_assoc]; rfl
      · intro s hs
        rw [List.mem_filter] at hs
        have := hs.2
        simp at this ⊢; omega
      · intro s hs
        have := flatF_ge k q f (n + 1) s hs
        simp; omega
    · rw [show [y].filter (fun i => decide (k i = (n : Nat))) = [] by rw [List.filter_cons, if_neg (by simpa using hy)]; rfl, List.append_nil]
      rw [flatF_snoc k q y f (n + 1) (by omega) (by omega), insR_skip]
      intro s hs
      rw [List.mem_filter] at hs
      have := hs.2
      simp at this ⊢; omega
theorem isort_flat (k : Nat → Int) (f n : Nat) : ∀ q : List Nat, (∀ y ∈ q, (n : Int) ≤ k y ∧ k y < n + f) → isort (fun a b => decide (k a ≤ k b)) q = flatF k q f n := by
  intro q
  induction q using snoc_ind with
  | h0 =>
    intro _
    have : ∀ (f n : Nat), flatF k [] f n = [] := by
      intro f; induction f with
      | zero => intro n; rfl
      | succ f ih => intro n; rw [flatF, ih]; rfl
    rw [this]; rfl
  | hs L x ih =>
    intro h
    have hx := h x (by simp)
    rw [isort_snoc, ih fun y hy => h y (by simp [hy]), flatF_snoc k L x f n hx.1 hx.2]
theorem ord_flat (l : List Int) : ∀ (f n : Nat), 0 < n → ordF l f n = flatF (fun i => l.getD i 0) (pidx l 0) f n
  | 0, n, _ => rfl
  | f + 1, n, h => by
    rw [ordF, flatF, ord_flat l f (n + 1) (by omega), ieq_filter l (n : Nat) (by omega) l 0 (fun j => by rw [Nat.zero_add])]
theorem ord_eq {l : List Int} (hv : ∀ x ∈ l, 0 ≤ x ∧ x ≤ 15) : ordF l 15 1 = ordL l := by
  rw [ord_flat l 15 1 (by omega), ordL]
  refine (isort_flat (fun i => l.getD i 0) 15 1 (pidx l 0) fun y hy => ?_).symm
  obtain ⟨q, rfl, x, h1, h2⟩ := pidx_mem l 0 y hy
  have hg : l.getD (0 + q) 0 = x := by simp [List.getD, h1]
  have := hv x (List.mem_of_getElem? h1)
  rw [hg]; omega
theorem rcodes_s (l : List Int) (hl : l.length ≤ 9223372036854775807) : PureF Try.prog 20 [.d (ints l)] (.tup [.d (u64s (codesR l).1), I .i64 (codesR l).2]) := by
  refine pure_of fun H => ?_
  refine spec_of Try.func20 (by kernel_rfl) rfl (by simp) ?_
  dsimp only [Try.f20]
  have hc := rvalid_s l hl
  cases hvl : validH l with
  | false =>
    rw [hvl] at hc
    repeat' (first | (refine k_op1 ?_; (first | refine o_sv rfl (by decide) ?_ | (refine k_call ?_; (refine o_fn hc rfl (by decide) ?_)))) | (refine k_ops ?_; (first | refine o_go (by first | exact .inl rfl | exact .inr ⟨_, _, _, rfl, rfl, rfl⟩) ?_ | refine o_nil ?_)) | (refine k_run ?_; (first | refine r_seq ?_ | refine r_region ?_ | refine r_true rfl ?_)))
    refine r_nil 2 rfl ?_
    refine r_ret Try.func20 _ (res_two rfl rfl rfl) ⟨?_, rfl⟩
    rw [codesR, hvl]; rfl
  | true =>
    rw [hvl] at hc
    obtain ⟨hl1, hv, _⟩ := validH_ok hvl
    repeat' (first | (refine k_op1 ?_; (first | refine o_sv rfl (by decide) ?_ | (refine k_blt ?_; (refine o_val (v_lenm rfl) rfl rfl (by decide) ?_)) | (refine k_call ?_; (refine o_fn hc rfl (by decide) ?_)) | (refine k_make ?_; (refine o_make (xs := (List.replicate l.length (0 : Int)).map fun x => [Du64 x]) rfl rfl (by omega) (by omega) rfl rfl rfl (by decide) (by simp) ?_)))) | (refine k_ops ?_; (first | refine o_go (by first | exact .inl rfl | exact .inr ⟨_, _, _, rfl, rfl, rfl⟩) ?_ | refine o_nil ?_)) | (refine k_run ?_; (first | refine r_seq ?_ | refine r_region ?_ | refine r_false rfl ?_ | refine r_skip ?_ | refine r_block ?_)))
    refine r_loop ?_
    refine r_less (r_inv (fun q : Nat × Int × Int × List Int => ⟨46, [(0, .d (ints l)), (4, .ref (0, 15)), (5, I .u64 q.2.1), (6, I .i64 q.2.2.1), (7, I .i64 ((q.1 + 1 : Nat) : Int))], [(15, .row 39 1 (q.2.2.2.map fun x => [Du64 x]))], H⟩)
      (fun q => q.1 ≤ 15 ∧ q.2.2.2.length = l.length ∧ 0 ≤ q.2.2.1 ∧ q.2.2.1 ≤ q.1 ∧ cl l (ordF l (15 - q.1) (q.1 + 1)) q.2.1 q.2.2.1 q.2.2.2 = codesH l)
      (fun q => 16 - q.1) ?_ (0, 0, 0, List.replicate l.length 0) ⟨by simp, by simp, by simp, by simp, by rw [codesH, ← ord_eq hv]; rfl⟩) rfl rfl
    intro ⟨n, nx, la, cs⟩ ⟨h1, h2, h3, h4, h5⟩ ih
    simp only at h1 h2 h3 h4 h5 ih ⊢
    by_cases hn : n < 15
    · rw [show 15 - n = (14 - n) + 1 by omega, ordF] at h5
      repeat' (first | (refine k_op1 ?_; (first | refine o_sv rfl (by decide) ?_ | (refine k_blt ?_; (refine o_val (v_lenm rfl) rfl rfl (by decide) ?_)))) | (refine k_ops ?_; (first | refine o_go (by first | exact .inl rfl | exact .inr ⟨_, _, _, rfl, rfl, rfl⟩) ?_ | refine o_nil ?_)) | (refine k_run ?_; (first | refine r_seq ?_ | refine r_region ?_ | refine r_skip ?_ | refine r_block ?_ | refine r_if rfl (fun _ => ?_) (fun _ => ?_) | refine r_exit rfl ?_)))
      all_goals try (exfalso; omega)
      refine r_loop ?_
      refine r_less (r_inv (fun q : Nat × Int × Int × List Int => ⟨46, [(0, .d (ints l)), (4, .ref (0, 15)), (5, I .u64 q.2.1), (6, I .i64 q.2.2.1), (7, I .i64 ((n + 1 : Nat) : Int)), (20, .d (ints l)), (21, I .i64 l.length), (22, I .i64 (q.1 : Nat))], [(15, .row 39 1 (q.2.2.2.map fun x => [Du64 x]))], H⟩)
        (fun q => q.1 ≤ l.length ∧ q.2.2.2.length = l.length ∧ 0 ≤ q.2.2.1 ∧ q.2.2.1 ≤ n + 1 ∧ cl l (ieq ((n + 1 : Nat) : Int) (l.drop q.1) q.1 ++ ordF l (14 - n) (n + 1 + 1)) q.2.1 q.2.2.1 q.2.2.2 = codesH l)
        (fun q => l.length - q.1) ?_ (0, nx, la, cs) ⟨by simp, h2, h3, by simp only; omega, h5⟩) rfl rfl
      intro ⟨s, nx, la, cs⟩ ⟨g1, g2, g3, g4, g5⟩ ih2
      simp only at g1 g2 g3 g4 g5 ih2 ⊢
      by_cases hs : s < l.length
      · obtain ⟨x, hx⟩ : ∃ x, l[s]? = some x := ⟨_, List.getElem?_eq_getElem hs⟩
        have hgx : l.getD s 0 = x := by simp [List.getD, hx]
        obtain ⟨z, hz⟩ : ∃ z, cs[s]? = some z := ⟨_, List.getElem?_eq_getElem (by omega)⟩
        rw [drop_cons hx, ieq] at g5
        by_cases hxn : x = ((n + 1 : Nat) : Int)
        · rw [if_pos hxn, List.cons_append, cl, hgx, hxn] at g5
          by_cases hla : la = 0
          · have hc1 : code1 l s nx la = 0 := by rw [code1, if_pos hla]
            rw [hc1] at g5
            repeat' (first | (refine k_op1 ?_; (first | refine o_sv rfl (by decide) ?_ | (refine k_load ?_; (refine o_val (v_loade rfl rfl rfl) rfl rfl (by decide) ?_)) | (refine k_index ?_; (first | refine o_val (v_index rfl (by omega) (idx hx) rfl) rfl rfl (by decide) ?_ | refine o_val (v_rindex rfl (by omega) (by rw [List.length_map]; omega) rfl) rfl rfl (by decide) ?_)) | (refine k_bin ?_; (refine o_val (v_add (wi64 (by omega) (by omega))) rfl rfl (by decide) ?_)) | (refine k_store ?_; (refine o_rstorem (0 : Int) rfl rfl rfl rfl hz rfl rfl rfl rfl ?_)))) | (refine k_ops ?_; (first | refine o_go (by first | exact .inl rfl | exact .inr ⟨_, _, _, rfl, rfl, rfl⟩) ?_ | refine o_nil ?_)) | (refine k_run ?_; (first | refine r_seq ?_ | refine r_region ?_ | refine r_skip ?_ | refine r_block ?_ | refine r_inBlock ?_ | refine r_if rfl (fun _ => ?_) (fun _ => ?_) | refine r_ifn rfl (fun _ => ?_) (fun _ => ?_) | refine r_exit rfl ?_)))
            all_goals try (exfalso; omega)
            exact r_less (ih2 (s + 1, 0, ((n + 1 : Nat) : Int), cs.set s 0) ⟨by simp only; omega, by simp only [List.length_set]; exact g2, by simp only; omega, by simp only; omega, g5⟩ (by simp only; omega)) rfl rfl
          · have hc1 : code1 l s nx la = nxt nx (((n + 1 : Nat) : Int) - la) := by rw [code1, if_neg hla, hgx, hxn]
            rw [hc1] at g5
            repeat' (first | (refine k_op1 ?_; (first | refine o_sv rfl (by decide) ?_ | (refine k_load ?_; (refine o_val (v_loade rfl rfl rfl) rfl rfl (by decide) ?_)) | (refine k_index ?_; (first | refine o_val (v_index rfl (by omega) (idx hx) rfl) rfl rfl (by decide) ?_ | refine o_val (v_rindex rfl (by omega) (by rw [List.length_map]; omega) rfl) rfl rfl (by decide) ?_)) | (refine k_bin ?_; (first | refine o_val (v_addw (k := .u64)) rfl rfl (by decide) ?_ | refine o_val (v_shl (by omega)) rfl rfl (by decide) ?_ | refine o_val (v_add (wi64 (by omega) (by omega))) rfl rfl (by decide) ?_ | refine o_val (v_sub (wi64 (by omega) (by omega))) rfl rfl (by decide) ?_)) | (refine k_store ?_; (refine o_rstorem (nxt nx (((n + 1 : Nat) : Int) - la)) rfl rfl rfl rfl hz rfl rfl rfl rfl ?_)) | (refine k_conv ?_; (refine o_val (v_conv rfl rfl (wu64 (by omega) (by omega))) rfl rfl (by decide) ?_)))) | (refine k_ops ?_; (first | refine o_go (by first | exact .inl rfl | exact .inr ⟨_, _, _, rfl, rfl, rfl⟩) ?_ | refine o_nil ?_)) | (refine k_run ?_; (first | refine r_seq ?_ | refine r_region ?_ | refine r_skip ?_ | refine r_block ?_ | refine r_inBlock ?_ | refine r_if rfl (fun _ => ?_) (fun _ => ?_) | refine r_ifn rfl (fun _ => ?_) (fun _ => ?_) | refine r_exit rfl ?_)))
            all_goals try (exfalso; omega)
            exact r_less (ih2 (s + 1, nxt nx (((n + 1 : Nat) : Int) - la), ((n + 1 : Nat) : Int), cs.set s (nxt nx (((n + 1 : Nat) : Int) - la))) ⟨by simp only; omega, by simp only [List.length_set]; exact g2, by simp only; omega, by simp only; omega, g5⟩ (by simp only; omega)) rfl rfl
        · rw [if_neg hxn] at g5
          repeat' (first | (refine k_op1 ?_; (first | refine o_sv rfl (by decide) ?_ | (refine k_load ?_; (refine o_val (v_loade rfl rfl rfl) rfl rfl (by decide) ?_)) | (refine k_index ?_; (refine o_val (v_index rfl (by omega) (idx hx) rfl) rfl rfl (by decide) ?_)) | (refine k_bin ?_; (refine o_val (v_add (wi64 (by omega) (by omega))) rfl rfl (by decide) ?_)))) | (refine k_ops ?_; (first | refine o_go (by first | exact .inl rfl | exact .inr ⟨_, _, _, rfl, rfl, rfl⟩) ?_ | refine o_nil ?_)) | (refine k_run ?_; (first | refine r_seq ?_ | refine r_region ?_ | refine r_skip ?_ | refine r_block ?_ | refine r_inBlock ?_ | refine r_if rfl (fun _ => ?_) (fun _ => ?_) | refine r_ifn rfl (fun _ => ?_) (fun _ => ?_) | refine r_exit rfl ?_)))
          all_goals try (exfalso; omega)
          exact r_less (ih2 (s + 1, nx, la, cs) ⟨by simp only; omega, g2, g3, g4, g5⟩ (by simp only; omega)) rfl rfl
      · obtain rfl : s = l.length := by omega
        rw [List.drop_length, ieq, List.nil_append] at g5
        repeat' (first | (refine k_op1 ?_; (first | refine o_sv rfl (by decide) ?_ | (refine k_bin ?_; (refine o_val (v_add (wi64 (by omega) (by omega))) rfl rfl (by decide) ?_)))) | (refine k_ops ?_; (first | refine o_go (by first | exact .inl rfl | exact .inr ⟨_, _, _, rfl, rfl, rfl⟩) ?_ | refine o_nil ?_)) | (refine k_run ?_; (first | refine r_seq ?_ | refine r_region ?_ | refine r_skip ?_ | refine r_block ?_ | refine r_inBlock ?_ | refine r_if rfl (fun _ => ?_) (fun _ => ?_) | refine r_exit rfl ?_)))
        all_goals try (exfalso; omega)
        exact r_less (ih (n + 1, nx, la, cs) ⟨by simp only; omega, g2, g3, by simp only; omega, by simp only; rw [show 15 - (n + 1) = 14 - n by omega]; exact g5⟩ (by simp only; omega)) rfl rfl
    · have hn15 : n = 15 := by omega
      subst hn15
      rw [Nat.sub_self, ordF, cl] at h5
      repeat' (first | (refine k_op1 ?_; (refine o_sv rfl (by decide) ?_)) | (refine k_ops ?_; (first | refine o_go (by first | exact .inl rfl | exact .inr ⟨_, _, _, rfl, rfl, rfl⟩) ?_ | refine o_nil ?_)) | (refine k_run ?_; (first | refine r_seq ?_ | refine r_region ?_ | refine r_false rfl ?_ | refine r_exit rfl ?_)))
      all_goals try (exfalso; omega)
      refine r_freeze 15 rfl ?_
      refine r_ret Try.func20 _ (res_two rfl rfl rfl) ⟨?_, rfl⟩
      rw [codesR, hvl, h5]; rfl
end Go.Proofs.Ytlgdilkmcfpjjaa
namespace Go.Proofs.Ytlgdilkmcfpjjaa
open Go.Ab Go.Srt
set_option linter.unusedVariables false
set_option linter.unusedSimpArgs false
/-- the width of a length -/
def W (x : Int) : Int := ((2 ^ (15 - x).toNat : Nat) : Int)
def wsum (l : List Int) : List Nat → Int
  | [] => 0
  | i :: r => W (l.getD i 0) + wsum l r
theorem W_pos (x : Int) : 0 < W x := by
  have : 0 < 2 ^ (15 - x).toNat := Nat.pow_pos (by omega)
  rw [W]; exact Int.natCast_pos.2 this
theorem wsum_nonneg (l : List Int) : ∀ r, 0 ≤ wsum l r
  | [] => by simp [wsum]
  | i :: r => by have := wsum_nonneg l r; have := W_pos (l.getD i 0); rw [wsum]; omega
theorem wsum_append (l : List Int) : ∀ r s, wsum l (r ++ s) = wsum l r + wsum l s
  | [], s => by simp [wsum]
  | i :: r, s => by rw [List.cons_append, wsum, wsum, wsum_append l r s]; omega
theorem wsum_perm (l : List Int) {r s : List Nat} (h : r.Perm s) : wsum l r = wsum l s := by
  induction h with
  | nil => rfl
  | cons x _ ih => rw [wsum, wsum, ih]
  | swap x y l => simp only [wsum]; omega
  | trans _ _ h1 h2 => rw [h1, h2]
theorem vsum_w (l0 : List Int) : ∀ (l : List Int) (i : Nat) (s t : Int), (∀ j, l[j]? = l0[i + j]?) → vsum l s = some t → t = s + wsum l0 (pidx l i)
  | [], i, s, t, _, h => by simp [vsum] at h; subst h; simp [pidx, wsum]
  | x :: r, i, s, t, hl, h => by
    have h0 : l0.getD i 0 = x := by have := hl 0; simp at this; simp [List.getD, ← this]
    rw [vsum] at h
    by_cases hr : x < 0 ∨ 15 < x
    · rw [if_pos hr] at h; cases h
    rw [if_neg hr] at h
    have := vsum_w l0 r (i + 1) _ t (fun j => by have := hl (j + 1); simp at this; rw [this]; congr 1; omega) h
    rw [pidx]
    by_cases hp : 0 < x
    · rw [if_pos hp] at this ⊢
      rw [this, wsum, h0, W]; omega
    · rw [if_neg hp] at this ⊢; exact this
theorem pow_int (n : Nat) : ((2 ^ n : Nat) : Int) = 2 ^ n := by simp
theorem W_split {x y : Int} (h1 : x ≤ y) (h2 : y ≤ 15) : W x = 2 ^ (y - x).toNat * W y := by
  rw [W, W, pow_int, pow_int, ← Int.pow_add]
  congr 1; omega
theorem W_all {x : Int} (h1 : 0 ≤ x) (h2 : x ≤ 15) : 32768 = 2 ^ x.toNat * W x := by
  rw [W, pow_int, ← Int.pow_add, show x.toNat + (15 - x).toNat = 15 by omega]; rfl
theorem nxt_eq {c d : Int} (h0 : 0 ≤ c) (h1 : c + 1 ≤ 32768) (h2 : 0 ≤ d) (h3 : d ≤ 15) : nxt c d = (c + 1) * 2 ^ d.toNat := by
  rw [nxt, wu64 (by omega) (by omega), shlV]
  have e : min d.toNat IntKind.u64.bits = d.toNat := Nat.min_eq_left (by show d.toNat ≤ 64; omega)
  rw [e]
  have hp : (2 : Int) ^ d.toNat ≤ 32768 := by
    have : (2 : Nat) ^ d.toNat ≤ 2 ^ 15 := Nat.pow_le_pow_right (by omega) (by omega)
    rw [← pow_int]; exact Int.ofNat_le.2 this
  have hp0 : (0 : Int) < 2 ^ d.toNat := Int.pow_pos (by omega)
  have a1 : 0 ≤ (c + 1) * 2 ^ d.toNat := Int.mul_nonneg (by omega) (by omega)
  have a2 : (c + 1) * 2 ^ d.toNat ≤ 32768 * 32768 := Int.le_trans (Int.mul_le_mul_of_nonneg_right h1 (by omega)) (Int.mul_le_mul_of_nonneg_left hp (by omega))
  exact wu64 a1 (by omega)
theorem cl_other (l : List Int) : ∀ (r : List Nat) (code before : Int) (cs : List Int) (i : Nat), i ∉ r → (cl l r code before cs)[i]? = cs[i]?
  | [], _, _, _, _, _ => rfl
  | j :: r, code, before, cs, i, h => by
    rw [List.mem_cons, not_or] at h
    rw [cl, cl_other l r _ _ _ i h.2, List.getElem?_set, if_neg (fun e => h.1 e.symm)]
theorem cl_len (l : List Int) : ∀ (r : List Nat) (code before : Int) (cs : List Int), (cl l r code before cs).length = cs.length
  | [], _, _, _ => rfl
  | j :: r, code, before, cs => by rw [cl, cl_len, List.length_set]
theorem cl_spec (l : List Int) : ∀ (r : List Nat) (code before P : Int) (cs : List Int), r.Nodup → (∀ i ∈ r, i < cs.length ∧ 1 ≤ l.getD i 0 ∧ l.getD i 0 ≤ 15 ∧ before ≤ l.getD i 0) → Asc (lle l) r →
    ((before = 0 ∧ P = 0) ∨ (1 ≤ before ∧ before ≤ 15 ∧ 0 ≤ code ∧ (code + 1) * W before = P)) → P + wsum l r ≤ 32768 →
    ∀ (k i : Nat), r[k]? = some i → ∃ c, (cl l r code before cs)[i]? = some c ∧ 0 ≤ c ∧ c * W (l.getD i 0) = P + wsum l (r.take k)
  | [], _, _, _, _, _, _, _, _, _, k, i, h => by simp at h
  | j :: r, code, before, P, cs, hnd, hr, hasc, hinv, hsum, k, i, h => by
    obtain ⟨hj, hnd'⟩ := List.nodup_cons.1 hnd
    obtain ⟨ha1, ha2⟩ := List.pairwise_cons.1 hasc
    obtain ⟨j1, j2, j3, j4⟩ := hr j (by simp)
    have hw0 := wsum_nonneg l r
    have hWj := W_pos (l.getD j 0)
    rw [wsum] at hsum
    -- the code of j
    have hcode : 0 ≤ code1 l j code before ∧ code1 l j code before * W (l.getD j 0) = P := by
      rcases hinv with ⟨h1, h2⟩ | ⟨h1, h2, h3, h4⟩
      · rw [code1, if_pos h1]; subst h2; simp
      · rw [code1, if_neg (by omega)]
        have hWb := W_pos before
        have hc1 : code + 1 ≤ 32768 := by
          have : (code + 1) * 1 ≤ (code + 1) * W before := Int.mul_le_mul_of_nonneg_left (by omega) (by omega)
          omega
        rw [nxt_eq h3 hc1 (by omega) (by omega)]
        refine ⟨Int.mul_nonneg (by omega) (Int.le_of_lt (Int.pow_pos (by omega))), ?_⟩
        rw [Int.mul_assoc, ← W_split j4 j3]; exact h4
    obtain ⟨c0, c1⟩ := hcode
    rw [cl]
    cases k with
    | zero =>
      simp at h; subst h
      refine ⟨code1 l j code before, ?_, c0, by rw [c1]; simp [wsum]⟩
      rw [cl_other l r _ _ _ j hj, List.getElem?_set, if_pos rfl, if_pos j1]
    | succ k =>
      simp only [List.getElem?_cons_succ] at h
      obtain ⟨c, e1, e2, e3⟩ := cl_spec l r (code1 l j code before) (l.getD j 0) (P + W (l.getD j 0)) (cs.set j (code1 l j code before)) hnd'
        (fun i hi => by
          obtain ⟨b1, b2, b3, b4⟩ := hr i (by simp [hi])
          have := ha1 i hi
          simp only [lle, decide_eq_true_eq] at this
          exact ⟨by rw [List.length_set]; exact b1, b2, b3, this⟩) ha2
        (.inr ⟨j2, j3, c0, by rw [Int.add_mul, c1, Int.one_mul]⟩) (by omega) k i h
      refine ⟨c, e1, e2, ?_⟩
      rw [e3, List.take_succ_cons, wsum]; omega
theorem pidx_lt : ∀ (l : List Int) (i : Nat), (pidx l i).Pairwise (· < ·) ∧ ∀ j ∈ pidx l i, i ≤ j
  | [], i => by simp [pidx]
  | x :: r, i => by
    obtain ⟨h1, h2⟩ := pidx_lt r (i + 1)
    rw [pidx]
    split
    · refine ⟨List.pairwise_cons.2 ⟨fun j hj => ?_, h1⟩, fun j hj => ?_⟩
      · have := h2 j hj; omega
      · rw [List.mem_cons] at hj
        rcases hj with rfl | hj
        · omega
        · have := h2 j hj; omega
    · exact ⟨h1, fun j hj => by have := h2 j hj; omega⟩
theorem ordL_nodup (l : List Int) : (ordL l).Nodup := by
  have h : (pidx l 0).Nodup := (pidx_lt l 0).1.imp (fun h => Nat.ne_of_lt h)
  exact (isort_perm (le := lle l) (pidx l 0)).nodup_iff.2 h
/-- the canonical codes of valid lengths, as parts of the whole -/
theorem codes_val {l : List Int} (hv : validH l = true) : ∀ (k i : Nat), (ordL l)[k]? = some i → ∃ c, (codesH l)[i]? = some c ∧ 0 ≤ c ∧ c * W (l.getD i 0) = wsum l ((ordL l).take k) := by
  obtain ⟨h1, h2, s, h3, h4⟩ := validH_ok hv
  have hs := vsum_w l l 0 0 s (fun j => by rw [Nat.zero_add]) h3
  intro k i hk
  obtain ⟨c, e1, e2, e3⟩ := cl_spec l (ordL l) 0 0 0 (List.replicate l.length 0) (ordL_nodup l) (fun i hi => by
    obtain ⟨a1, a2⟩ := ordL_mem l i hi
    have := h2 _ (List.mem_of_getElem? (show l[i]? = some (l.getD i 0) by rw [List.getElem?_eq_getElem a1, List.getD, List.getElem?_eq_getElem a1]; rfl))
    exact ⟨by simpa using a1, by omega, by omega, by omega⟩) (isort_asc (lle_ord l) _) (.inl ⟨rfl, rfl⟩) (by rw [ordL, wsum_perm l (isort_perm (le := lle l) (pidx l 0))]; omega) k i hk
  exact ⟨c, e1, e2, by omega⟩
theorem wsum_take_le (l : List Int) (r : List Nat) (k i : Nat) (h : r[k]? = some i) : wsum l (r.take k) + W (l.getD i 0) ≤ wsum l r := by
  have h1 := List.getElem?_eq_some_iff.1 h
  have : r = r.take k ++ i :: r.drop (k + 1) := by
    conv => lhs; rw [← List.take_append_drop k r, List.drop_eq_getElem_cons h1.1, h1.2]
  conv => rhs; rw [this, wsum_append, wsum]
  have := wsum_nonneg l (r.drop (k + 1))
  omega
theorem ord_total {l : List Int} (hv : validH l = true) : wsum l (ordL l) ≤ 32768 := by
  obtain ⟨h1, h2, s, h3, h4⟩ := validH_ok hv
  have hs := vsum_w l l 0 0 s (fun j => by rw [Nat.zero_add]) h3
  rw [ordL, wsum_perm l (isort_perm (le := lle l) (pidx l 0))]; omega
/-- a code fits its length -/
theorem code_fits {l : List Int} (hv : validH l = true) {i : Nat} (hi : i ∈ ordL l) : ∃ c, (codesH l)[i]? = some c ∧ 0 ≤ c ∧ c + 1 ≤ 2 ^ (l.getD i 0).toNat := by
  obtain ⟨k, hk, rfl⟩ := List.getElem_of_mem hi
  have hk' : (ordL l)[k]? = some (ordL l)[k] := List.getElem?_eq_getElem hk
  obtain ⟨c, e1, e2, e3⟩ := codes_val hv k _ hk'
  refine ⟨c, e1, e2, ?_⟩
  obtain ⟨h1, h2, _⟩ := validH_ok hv
  obtain ⟨a1, a2⟩ := ordL_mem l _ hi
  have a3 := h2 _ (List.mem_of_getElem? (show l[(ordL l)[k]]? = some (l.getD (ordL l)[k] 0) by rw [List.getElem?_eq_getElem a1, List.getD, List.getElem?_eq_getElem a1]; rfl))
  have ht := wsum_take_le l (ordL l) k _ hk'
  have htot := ord_total hv
  have hW := W_pos (l.getD (ordL l)[k] 0)
  have hall := W_all a3.1 a3.2
  have : (c + 1) * W (l.getD (ordL l)[k] 0) ≤ 2 ^ (l.getD (ordL l)[k] 0).toNat * W (l.getD (ordL l)[k] 0) := by rw [Int.add_mul, e3, Int.one_mul, ← hall]; omega
  exact Int.le_of_mul_le_mul_right this hW
theorem mem_ordL {l : List Int} {i : Nat} {x : Int} (h : l[i]? = some x) (hx : 0 < x) : i ∈ ordL l := by
  rw [ordL, (isort_perm (le := lle l) (pidx l 0)).mem_iff]
  have : ∀ (r : List Int) (o j : Nat) (x : Int), r[j]? = some x → 0 < x → o + j ∈ pidx r o := by
    intro r
    induction r with
    | nil => intro o j x h; simp at h
    | cons y r ih =>
      intro o j x h hx
      rw [pidx]
      cases j with
      | zero => simp at h; subst h; rw [if_pos hx]; simp
      | succ j =>
        simp only [List.getElem?_cons_succ] at h
        have := ih (o + 1) j x h hx
        rw [show o + 1 + j = o + (j + 1) by omega] at this
        split
        · exact List.mem_cons_of_mem _ this
        · exact this
  simpa using this l 0 i x h hx
end Go.Proofs.Ytlgdilkmcfpjjaa
