/- What the bit writer writes, for every input. -/
import Derived.Test.YtlgdilkmcfpjjaaWa
import Derived.Test.YtlgdilkmcfpjjaaFe
set_option linter.all false
set_option linter.unusedVariables false
set_option linter.unusedSimpArgs false
namespace Go.Proofs.Ytlgdilkmcfpjjaa
open Go.Ab
set_option maxHeartbeats 20000000
set_option linter.unusedVariables false
set_option linter.unusedSimpArgs false
attribute [local irreducible] Run Ops Op1 Does Val Tr PureF Eff1 NF Rel EffV

abbrev Du8 (x : Int) : D := .lit (.int .u8 x)
def bytesL (l : List Int) : D := .slice (l.map fun x => [Du8 x])
theorem and7 (n : Nat) (h : n ≤ 4611686018427387904) : andV .i64 (n : Nat) 7 = ((n % 8 : Nat) : Int) := by
  have e1 : (BitVec.ofInt IntKind.i64.bits ((n : Nat) : Int)).toNat = n := by
    rw [BitVec.ofInt_natCast, BitVec.toNat_ofNat]; exact Nat.mod_eq_of_lt (by show n < 2 ^ 64; omega)
  have e2 : (BitVec.ofInt IntKind.i64.bits (7 : Int)).toNat = 7 := rfl
  rw [andV, BitVec.toNat_and, e1, e2, show (7 : Nat) = 2 ^ 3 - 1 from rfl, Nat.and_two_pow_sub_one_eq_mod]
  exact wi64 (by omega) (by omega)
theorem v_and7 {P : Program} {ty tx ty' : TypeId} {x y : Operand} {n : Nat} (h : n ≤ 4611686018427387904) : Val P (.binOp .and tx x y ty') ty [(x, I .i64 (n : Nat)), (y, I .i64 7)] [] (I .i64 ((n % 8 : Nat) : Int)) := by
  rw [← and7 n h]; exact v_band
theorem shr3 (n : Nat) : shrV .i64 (n : Nat) 3 = ((n / 8 : Nat) : Int) := by
  rw [shrV_eq (by omega) (by decide)]; rfl
theorem v_shr3 {P : Program} {ty tx ty' : TypeId} {x y : Operand} {n : Nat} {k2 : IntKind} : Val P (.binOp .shr tx x y ty') ty [(x, I .i64 (n : Nat)), (y, I k2 3)] [] (I .i64 ((n / 8 : Nat) : Int)) := by
  rw [← shr3 n]; exact v_shr (by omega)
/-- the bit i of some bytes set -/
def setb (b : List Int) (i : Nat) : List Int := b.set (i / 8) (orV .u8 (b.getD (i / 8) 0) (shrV .u8 128 ((i % 8 : Nat) : Int)))
/-- one more bit written -/
def pstep (b : List Int) (n : Nat) (x : Bool) : List Int := if x then setb (if n % 8 = 0 then b ++ [0] else b) n else (if n % 8 = 0 then b ++ [0] else b)
def bit0 (v : Int) : Bool := decide (andV .u64 v 1 = 1)
theorem pstep_len (b : List Int) (n : Nat) (x : Bool) (h : b.length = (n + 7) / 8) : (pstep b n x).length = (n + 1 + 7) / 8 := by
  have : (if n % 8 = 0 then b ++ [0] else b).length = (n + 1 + 7) / 8 := by
    split
    · rw [List.length_append, List.length_singleton]; omega
    · omega
  rw [pstep]; split
  · rw [setb, List.length_set]; exact this
  · exact this
theorem put_s (v : Int) (b : List Int) (n : Nat) (hn : n ≤ 1000000000) (hb : b.length = (n + 7) / 8) :
    EffV Try.prog 54 [.ptr (0, 500) 0, I .u64 v] [((0, 500), .box [.ref (0, 501), I .i64 (n : Nat)]), ((0, 501), .row 5 1 (b.map fun x => [Du8 x]))]
      [((0, 500), .box [.ref (0, 501), I .i64 ((n + 1 : Nat) : Int)]), ((0, 501), .row 5 1 ((pstep b n (bit0 v)).map fun x => [Du8 x]))] (.tup []) 501 := by
  refine effv_of fun H hH hQ => ?_
  have hH0 := hH ((0, 500), .box [.ref (0, 501), I .i64 (n : Nat)]) (by simp)
  have hH1 := hH ((0, 501), .row 5 1 (b.map fun x => [Du8 x])) (by simp)
  refine specV_of Try.func54 (by kernel_rfl) rfl (by simp) ?_
  dsimp only [Try.f54]
  refine r_take 500 0 500 hH0 rfl rfl ?_
  refine r_taker 501 0 501 (upd_ne hH1 (by simp)) rfl rfl ?_
  refine r_alias 100501 rfl ?_
  have hfin : ∀ (c : List Int) (hc : c = if n % 8 = 0 then b ++ [0] else b), (n / 8 < c.length) := fun c hc => by
    subst hc; split
    · rw [List.length_append, List.length_singleton]; omega
    · omega
  by_cases h8 : n % 8 = 0
  · have hlt := hfin _ rfl
    rw [if_pos h8] at hlt
    obtain ⟨z, hz⟩ : ∃ z, (b ++ [0])[n / 8]? = some z := ⟨_, List.getElem?_eq_getElem hlt⟩
    have hgz : (b ++ [0]).getD (n / 8) 0 = z := by simp only [List.getD, hz]; rfl
    have e1 : andV .u64 v 1 = 1 → pstep b n (bit0 v) = (b ++ [0]).set (n / 8) (orV .u8 z (shrV .u8 128 ((n % 8 : Nat) : Int))) := fun h => by rw [pstep, bit0, h, if_pos (by simp), if_pos h8, setb, hgz]
    have e2 : ¬ andV .u64 v 1 = 1 → pstep b n (bit0 v) = (b ++ [0]) := fun h => by rw [pstep, bit0, if_neg (by simpa using h), if_pos h8]
    repeat' (first | (refine k_op1 ?_; (first | refine o_sv rfl (by decide) ?_ | (refine k_load ?_; (refine o_val (v_load rfl rfl rfl rfl) rfl rfl (by decide) ?_)) | (refine k_field ?_; (refine o_val (v_field rfl rfl) rfl rfl (by decide) ?_)) | (refine k_bin ?_; (first | refine o_val (v_and7 (by omega)) rfl rfl (by decide) ?_ | refine o_val v_band rfl rfl (by decide) ?_ | refine o_val (v_add (wi64 (by omega) (by omega))) rfl rfl (by decide) ?_)) | (refine k_blt ?_; (refine o_app1 (g := fun x : Int => [Du8 x]) rfl rfl (0 : Int) rfl rfl rfl rfl rfl rfl rfl (by decide) (by omega) ?_)) | (refine k_store ?_; (refine o_store0 rfl rfl rfl rfl rfl rfl ?_)) | (refine k_lit ?_; (refine o_lit rfl rfl rfl rfl rfl rfl rfl rfl (by decide) ?_)))) | (refine k_ops ?_; (first | refine o_go (by first | exact .inl rfl | exact .inr ⟨_, _, _, rfl, rfl, rfl⟩) ?_ | refine o_nil ?_)) | (refine k_run ?_; (first | refine r_seq ?_ | refine r_region ?_ | refine r_skip ?_ | refine r_tr ?_ | refine r_if rfl (fun _ => ?_) (fun _ => ?_))) | (refine k_tr ?_; (first | (refine kt_end ?_; refine t_end mix (by kernel_rfl) ?_) | refine t_sv rfl (by first | exact rfl | exact ⟨_, rfl, rfl, rfl⟩) (by decide) ?_ | (refine kt_load ?_; (first | refine t_val (v_rloadm hz rfl rfl rfl) (by first | exact rfl | exact ⟨_, rfl, rfl, rfl⟩) rfl rfl (by decide) ?_ | refine t_val (v_load rfl rfl rfl rfl) (by first | exact rfl | exact ⟨_, rfl, rfl, rfl⟩) rfl rfl (by decide) ?_)) | (refine kt_field ?_; (refine t_val (v_field rfl rfl) (by first | exact rfl | exact ⟨_, rfl, rfl, rfl⟩) rfl rfl (by decide) ?_)) | (refine kt_index ?_; (refine t_val (v_rindex rfl (by omega) (by rw [List.length_map]; omega) rfl) (by first | exact rfl | exact ⟨_, rfl, rfl, rfl⟩) rfl rfl (by decide) ?_)) | (refine kt_bin ?_; (first | refine t_val (v_and7 (by omega)) (by first | exact rfl | exact ⟨_, rfl, rfl, rfl⟩) rfl rfl (by decide) ?_ | refine t_val v_shr3 (by first | exact rfl | exact ⟨_, rfl, rfl, rfl⟩) rfl rfl (by decide) ?_ | refine t_val (v_shr (by omega)) (by first | exact rfl | exact ⟨_, rfl, rfl, rfl⟩) rfl rfl (by decide) ?_ | refine t_val v_bor (by first | exact rfl | exact ⟨_, rfl, rfl, rfl⟩) rfl rfl (by decide) ?_)) | (refine kt_store ?_; (refine t_rstorem (orV .u8 z (shrV .u8 128 ((n % 8 : Nat) : Int))) (by first | exact rfl | exact ⟨_, rfl, rfl, rfl⟩) rfl rfl rfl rfl hz rfl rfl rfl rfl ?_)))))
    all_goals try (exfalso; omega)
    all_goals refine r_ren 16 501 rfl rfl ?_
    all_goals refine r_givev 501 501 rfl rfl rfl rfl (quiet_two hQ) ?_
    all_goals refine r_give 500 0 500 (raw := .box [.ref (0, 501), I .i64 ((n + 1 : Nat) : Int)]) rfl rfl rfl rfl rfl ?_
    all_goals refine r_end Try.func54 _ (res_none rfl) ⟨rfl, (upd_two (by simp)).trans ?_⟩
    all_goals first
      | (rw [e1 (by assumption)]; rfl)
      | (rw [e2 (by assumption)]; rfl)
  · have hlt := hfin _ rfl
    rw [if_neg h8] at hlt
    obtain ⟨z, hz⟩ : ∃ z, b[n / 8]? = some z := ⟨_, List.getElem?_eq_getElem hlt⟩
    have hgz : b.getD (n / 8) 0 = z := by simp only [List.getD, hz]; rfl
    have e1 : andV .u64 v 1 = 1 → pstep b n (bit0 v) = b.set (n / 8) (orV .u8 z (shrV .u8 128 ((n % 8 : Nat) : Int))) := fun h => by rw [pstep, bit0, h, if_pos (by simp), if_neg h8, setb, hgz]
    have e2 : ¬ andV .u64 v 1 = 1 → pstep b n (bit0 v) = b := fun h => by rw [pstep, bit0, if_neg (by simpa using h), if_neg h8]
    repeat' (first | (refine k_op1 ?_; (first | refine o_sv rfl (by decide) ?_ | (refine k_load ?_; (refine o_val (v_load rfl rfl rfl rfl) rfl rfl (by decide) ?_)) | (refine k_field ?_; (refine o_val (v_field rfl rfl) rfl rfl (by decide) ?_)) | (refine k_bin ?_; (first | refine o_val (v_and7 (by omega)) rfl rfl (by decide) ?_ | refine o_val v_band rfl rfl (by decide) ?_ | refine o_val (v_add (wi64 (by omega) (by omega))) rfl rfl (by decide) ?_)) | (refine k_blt ?_; (refine o_app1 (g := fun x : Int => [Du8 x]) rfl rfl (0 : Int) rfl rfl rfl rfl rfl rfl rfl (by decide) (by omega) ?_)) | (refine k_store ?_; (refine o_store0 rfl rfl rfl rfl rfl rfl ?_)) | (refine k_lit ?_; (refine o_lit rfl rfl rfl rfl rfl rfl rfl rfl (by decide) ?_)))) | (refine k_ops ?_; (first | refine o_go (by first | exact .inl rfl | exact .inr ⟨_, _, _, rfl, rfl, rfl⟩) ?_ | refine o_nil ?_)) | (refine k_run ?_; (first | refine r_seq ?_ | refine r_region ?_ | refine r_skip ?_ | refine r_tr ?_ | refine r_if rfl (fun _ => ?_) (fun _ => ?_))) | (refine k_tr ?_; (first | (refine kt_end ?_; refine t_end mix (by kernel_rfl) ?_) | refine t_sv rfl (by first | exact rfl | exact ⟨_, rfl, rfl, rfl⟩) (by decide) ?_ | (refine kt_load ?_; (first | refine t_val (v_rloadm hz rfl rfl rfl) (by first | exact rfl | exact ⟨_, rfl, rfl, rfl⟩) rfl rfl (by decide) ?_ | refine t_val (v_load rfl rfl rfl rfl) (by first | exact rfl | exact ⟨_, rfl, rfl, rfl⟩) rfl rfl (by decide) ?_)) | (refine kt_field ?_; (refine t_val (v_field rfl rfl) (by first | exact rfl | exact ⟨_, rfl, rfl, rfl⟩) rfl rfl (by decide) ?_)) | (refine kt_index ?_; (refine t_val (v_rindex rfl (by omega) (by rw [List.length_map]; omega) rfl) (by first | exact rfl | exact ⟨_, rfl, rfl, rfl⟩) rfl rfl (by decide) ?_)) | (refine kt_bin ?_; (first | refine t_val (v_and7 (by omega)) (by first | exact rfl | exact ⟨_, rfl, rfl, rfl⟩) rfl rfl (by decide) ?_ | refine t_val v_shr3 (by first | exact rfl | exact ⟨_, rfl, rfl, rfl⟩) rfl rfl (by decide) ?_ | refine t_val (v_shr (by omega)) (by first | exact rfl | exact ⟨_, rfl, rfl, rfl⟩) rfl rfl (by decide) ?_ | refine t_val v_bor (by first | exact rfl | exact ⟨_, rfl, rfl, rfl⟩) rfl rfl (by decide) ?_)) | (refine kt_store ?_; (refine t_rstorem (orV .u8 z (shrV .u8 128 ((n % 8 : Nat) : Int))) (by first | exact rfl | exact ⟨_, rfl, rfl, rfl⟩) rfl rfl rfl rfl hz rfl rfl rfl rfl ?_)))))
    all_goals try (exfalso; omega)
    all_goals refine r_givev 501 501 rfl rfl rfl rfl (quiet_two hQ) ?_
    all_goals refine r_give 500 0 500 (raw := .box [.ref (0, 501), I .i64 ((n + 1 : Nat) : Int)]) rfl rfl rfl rfl rfl ?_
    all_goals refine r_end Try.func54 _ (res_none rfl) ⟨rfl, (upd_two (by simp)).trans ?_⟩
    all_goals first
      | (rw [e1 (by assumption)]; rfl)
      | (rw [e2 (by assumption)]; rfl)
end Go.Proofs.Ytlgdilkmcfpjjaa
namespace Go.Proofs.Ytlgdilkmcfpjjaa
open Go.Ab
set_option maxHeartbeats 20000000
set_option linter.unusedVariables false
set_option linter.unusedSimpArgs false
attribute [local irreducible] Run Ops Op1 Does Val Tr PureF Eff1 NF Rel EffV

/-- bits written one behind the other -/
def pbs : List Int → Nat → List Bool → List Int
  | b, _, [] => b
  | b, n, x :: r => pbs (pstep b n x) (n + 1) r
theorem pbs_len : ∀ (r : List Bool) (b : List Int) (n : Nat), b.length = (n + 7) / 8 → (pbs b n r).length = (n + r.length + 7) / 8
  | [], b, n, h => by simpa [pbs] using h
  | x :: r, b, n, h => by rw [pbs, pbs_len r _ _ (pstep_len b n x h), List.length_cons]; congr 1; omega
theorem pbs_app : ∀ (r s : List Bool) (b : List Int) (n : Nat), pbs b n (r ++ s) = pbs (pbs b n r) (n + r.length) s
  | [], s, b, n => rfl
  | x :: r, s, b, n => by rw [List.cons_append, pbs, pbs, pbs_app r s, List.length_cons]; congr 1; omega
/-- the lowest bits of a number, the most significant one first -/
def lowB (v : Int) : Nat → List Bool
  | 0 => []
  | k + 1 => bit0 (shrV .u64 v (k : Nat)) :: lowB v k
theorem lowB_len (v : Int) : ∀ k, (lowB v k).length = k
  | 0 => rfl
  | k + 1 => by rw [lowB, List.length_cons, lowB_len v k]
abbrev wbox (n : Nat) : Blk := .box [.ref (0, 501), I .i64 (n : Nat)]
abbrev wrow (b : List Int) : Blk := .row 5 1 (b.map fun x => [Du8 x])
theorem lowest_s (v : Int) (b : List Int) (n c : Nat) (hn : n ≤ 1000000) (hc : c ≤ 64) (hb : b.length = (n + 7) / 8) :
    EffV Try.prog 47 [.ptr (0, 500) 0, I .u64 v, I .i64 (c : Nat)] [((0, 500), wbox n), ((0, 501), wrow b)]
      [((0, 500), wbox (n + c)), ((0, 501), wrow (pbs b n (lowB v c)))] (.tup []) 501 := by
  refine effv_of fun H hH hQ => ?_
  have hH0 := hH ((0, 500), wbox n) (by simp)
  have hH1 := hH ((0, 501), wrow b) (by simp)
  refine specV_of Try.func47 (by kernel_rfl) rfl (by simp) ?_
  dsimp only [Try.f47]
  refine r_take 500 0 500 hH0 rfl rfl ?_
  refine r_taker 501 0 501 (upd_ne hH1 (by simp)) rfl rfl ?_
  refine r_alias 100501 rfl ?_
  repeat' (first | (refine k_op1 ?_; (first | refine o_sv rfl (by decide) ?_ | (refine k_bin ?_; (refine o_val (v_sub (wi64 (by omega) (by omega))) rfl rfl (by decide) ?_)))) | (refine k_ops ?_; (first | refine o_go (by first | exact .inl rfl | exact .inr ⟨_, _, _, rfl, rfl, rfl⟩) ?_ | refine o_nil ?_)) | (refine k_run ?_; (first | refine r_seq ?_ | refine r_region ?_ | refine r_block ?_)))
  refine r_loop ?_
  refine r_less (r_inv (fun q : Nat × Int × Nat × List Int => ⟨20, [(0, .ptr (0, 500) 0), (1, I .u64 v), (6, I .i64 q.2.1), (100500, .al (0, 500) (1, 500))], [(500, wbox q.2.2.1), (501, wrow q.2.2.2)], upd (upd H (0, 500) .gone) (0, 501) .gone⟩)
    (fun q => q.2.1 = (q.1 : Int) - 1 ∧ q.2.2.1 + q.1 = n + c ∧ q.2.2.2.length = (q.2.2.1 + 7) / 8 ∧ pbs q.2.2.2 q.2.2.1 (lowB v q.1) = pbs b n (lowB v c)) (fun q => q.1) ?_ (c, (c : Int) - 1, n, b) ⟨rfl, rfl, hb, rfl⟩) rfl rfl
  intro ⟨k, i, m, bb⟩ ⟨h1, h2, h3, h4⟩ ih
  simp only at h1 h2 h3 h4 ih ⊢
  cases k with
  | zero =>
    rw [lowB, pbs] at h4
    have hm : m = n + c := by omega
    subst hm
    subst h4
    repeat' (first | (refine k_op1 ?_; (refine o_sv rfl (by decide) ?_)) | (refine k_ops ?_; (first | refine o_go (by first | exact .inl rfl | exact .inr ⟨_, _, _, rfl, rfl, rfl⟩) ?_ | refine o_nil ?_)) | (refine k_run ?_; (first | refine r_seq ?_ | refine r_region ?_ | refine r_skip ?_ | refine r_block ?_ | refine r_tr ?_ | refine r_if rfl (fun _ => ?_) (fun _ => ?_) | refine r_exit rfl ?_)) | (refine k_tr ?_; (first | refine t_sv rfl (by first | exact rfl | exact ⟨_, rfl, rfl, rfl⟩) (by decide) ?_ | (refine kt_field ?_; (refine t_val (v_field rfl rfl) (by first | exact rfl | exact ⟨_, rfl, rfl, rfl⟩) rfl rfl (by decide) ?_)))))
    all_goals try (exfalso; omega)
    refine r_givev 501 501 rfl rfl rfl rfl (quiet_two hQ) ?_
    refine r_give 500 0 500 (raw := wbox (n + c)) rfl rfl rfl rfl rfl ?_
    exact r_end Try.func47 _ (res_none rfl) ⟨rfl, (upd_two (by simp)).trans rfl⟩
  | succ k =>
    rw [lowB, pbs] at h4
    have hik : i = (k : Nat) := by omega
    rw [← hik] at h4
    have hput := put_s (shrV .u64 v i) bb m (by omega) h3
    repeat' (first | (refine k_op1 ?_; (first | refine o_sv rfl (by decide) ?_ | (refine k_bin ?_; (refine o_val (v_sub (wi64 (by omega) (by omega))) rfl rfl (by decide) ?_)) | (refine k_call ?_; (refine o_effv2 (first := []) (cap := []) hput rfl rfl rfl rfl rfl rfl (by decide) ?_)))) | (refine k_ops ?_; (first | refine o_go (by first | exact .inl rfl | exact .inr ⟨_, _, _, rfl, rfl, rfl⟩) ?_ | refine o_nil ?_)) | (refine k_run ?_; (first | refine r_seq ?_ | refine r_region ?_ | refine r_skip ?_ | refine r_block ?_ | refine r_tr ?_ | refine r_inBlock ?_ | refine r_if rfl (fun _ => ?_) (fun _ => ?_) | refine r_exit rfl ?_)) | (refine k_tr ?_; (first | refine t_sv rfl (by first | exact rfl | exact ⟨_, rfl, rfl, rfl⟩) (by decide) ?_ | (refine kt_field ?_; (refine t_val (v_field rfl rfl) (by first | exact rfl | exact ⟨_, rfl, rfl, rfl⟩) rfl rfl (by decide) ?_)) | (refine kt_bin ?_; (refine t_val (v_shr (by omega)) (by first | exact rfl | exact ⟨_, rfl, rfl, rfl⟩) rfl rfl (by decide) ?_)) | refine t_tail mix (by kernel_rfl) ?_)))
    all_goals try (exfalso; omega)
    exact r_less (ih (k, i - 1, m + 1, pstep bb m (bit0 (shrV .u64 v i))) ⟨by simp only; omega, by simp only; omega, pstep_len bb m _ h3, h4⟩ (by simp only; omega)) rfl rfl
end Go.Proofs.Ytlgdilkmcfpjjaa
namespace Go.Proofs.Ytlgdilkmcfpjjaa
open Go.Ab
set_option maxHeartbeats 20000000
set_option linter.unusedVariables false
set_option linter.unusedSimpArgs false
attribute [local irreducible] Run Ops Op1 Does Val Tr PureF Eff1 NF Rel EffV

def tab : ByteArray := { data := (([0, 1, 2, 2, 3, 3, 3, 3, 4, 4, 4, 4, 4, 4, 4, 4, 5, 5, 5, 5, 5, 5, 5, 5, 5, 5, 5, 5, 5, 5, 5, 5, 6, 6, 6, 6, 6, 6, 6, 6, 6, 6, 6, 6, 6, 6, 6, 6, 6, 6, 6, 6, 6, 6, 6, 6, 6, 6, 6, 6, 6, 6, 6, 6].append [7, 7, 7, 7, 7, 7, 7, 7, 7, 7, 7, 7, 7, 7, 7, 7, 7, 7, 7, 7, 7, 7, 7, 7, 7, 7, 7, 7, 7, 7, 7, 7, 7, 7, 7, 7, 7, 7, 7, 7, 7, 7, 7, 7, 7, 7, 7, 7, 7, 7, 7, 7, 7, 7, 7, 7, 7, 7, 7, 7, 7, 7, 7, 7]).append ([8, 8, 8, 8, 8, 8, 8, 8, 8, 8, 8, 8, 8, 8, 8, 8, 8, 8, 8, 8, 8, 8, 8, 8, 8, 8, 8, 8, 8, 8, 8, 8, 8, 8, 8, 8, 8, 8, 8, 8, 8, 8, 8, 8, 8, 8, 8, 8, 8, 8, 8, 8, 8, 8, 8, 8, 8, 8, 8, 8, 8, 8, 8, 8].append [8, 8, 8, 8, 8, 8, 8, 8, 8, 8, 8, 8, 8, 8, 8, 8, 8, 8, 8, 8, 8, 8, 8, 8, 8, 8, 8, 8, 8, 8, 8, 8, 8, 8, 8, 8, 8, 8, 8, 8, 8, 8, 8, 8, 8, 8, 8, 8, 8, 8, 8, 8, 8, 8, 8, 8, 8, 8, 8, 8, 8, 8, 8, 8])).toArray }
theorem tab_get : ∀ x : Nat, x < 256 → ∃ b : UInt8, tab[x]? = some b ∧ ∀ n : Nat, n ≤ 8 → (b.toNat ≤ n ↔ x < 2 ^ n) := by
  have h : ∀ x : Fin 256, (match tab[x.1]? with | some b => (List.range 9).all fun n => decide (b.toNat ≤ n) == decide (x.1 < 2 ^ n) | none => false) = true := by decide +kernel
  intro x hx
  have := h ⟨x, hx⟩
  cases hb : tab[x]? with
  | none => simp [hb] at this
  | some b =>
    simp only [hb, List.all_eq_true, List.mem_range, beq_iff_eq] at this
    refine ⟨b, rfl, fun n hn => ?_⟩
    have := this n (by omega)
    exact decide_eq_decide.1 this
theorem wu8 {x : Int} (h1 : 0 ≤ x) (h2 : x < 256) : IntKind.u8.wrap x = x := by
  simp only [IntKind.wrap, IntKind.bits, IntKind.signed]
  simp
  omega
/-- how many bits a small number needs -/
theorem len64_s (v : Int) (h0 : 0 ≤ v) (h1 : v < 65536) : ∃ m : Nat, (∀ n : Nat, n ≤ 16 → (m ≤ n ↔ v < 2 ^ n)) ∧ PureF Try.prog 46 [I .u64 v] (I .i64 (m : Nat)) := by
  by_cases h8 : v < 256
  · obtain ⟨b, hb, hn⟩ := tab_get v.toNat (by omega)
    refine ⟨b.toNat, fun n hn16 => ?_, ?_⟩
    · have hp : (2 : Int) ^ n = ((2 ^ n : Nat) : Int) := by simp
      by_cases h : n ≤ 8
      · rw [hn n h, hp]; omega
      · have h3 := (hn 8 (by omega)).2 (by omega)
        have h4 : (2 : Nat) ^ 8 ≤ 2 ^ n := Nat.pow_le_pow_right (by omega) (by omega)
        rw [hp]; omega
    · have hb8 := b.toNat_lt
      refine pure_of fun H => ?_
      refine spec_of Try.func46 (by kernel_rfl) rfl (by simp) ?_
      dsimp only [Try.f46]
      repeat' (first | (refine k_op1 ?_; (first | refine o_sv rfl (by decide) ?_ | (refine k_sindex ?_; (refine o_val (v_sindex (s := tab) rfl (by omega) hb) rfl rfl (by decide) ?_)) | (refine k_bin ?_; (refine o_val (v_add (wi64 (by omega) (by omega))) rfl rfl (by decide) ?_)) | (refine k_conv ?_; (first | refine o_val (v_conv rfl rfl (wu8 (by omega) (by omega))) rfl rfl (by decide) ?_ | refine o_val (v_conv rfl rfl (wi64 (by omega) (by omega))) rfl rfl (by decide) ?_)))) | (refine k_ops ?_; (first | refine o_go (by first | exact .inl rfl | exact .inr ⟨_, _, _, rfl, rfl, rfl⟩) ?_ | refine o_nil ?_)) | (refine k_run ?_; (first | refine r_seq ?_ | refine r_region ?_ | refine r_skip ?_ | refine r_if rfl (fun _ => ?_) (fun _ => ?_))))
      all_goals try (exfalso; omega)
      refine r_ret Try.func46 _ (res_one rfl rfl) ⟨?_, rfl⟩
      simp
  · obtain ⟨b, hb, hn⟩ := tab_get (v / 256).toNat (by omega)
    have hsh : shrV .u64 v 8 = v / 256 := shrV_eq h0 (by decide)
    refine ⟨8 + b.toNat, fun n hn16 => ?_, ?_⟩
    · have hp : (2 : Int) ^ n = ((2 ^ n : Nat) : Int) := by simp
      by_cases h : n < 8
      · have h4 : (2 : Nat) ^ n ≤ 2 ^ 8 := Nat.pow_le_pow_right (by omega) (by omega)
        rw [hp]; omega
      · obtain ⟨m, rfl⟩ : ∃ m, n = 8 + m := ⟨n - 8, by omega⟩
        have := hn m (by omega)
        rw [hp, Nat.pow_add]
        omega
    · have hb8 := b.toNat_lt
      refine pure_of fun H => ?_
      refine spec_of Try.func46 (by kernel_rfl) rfl (by simp) ?_
      dsimp only [Try.f46]
      have hr : Val Try.prog (.binOp .shr 39 (.tmp 15) (.const (.int .u64 8)) 30) 39 [(.tmp 15, I .u64 v), (.const (.int .u64 8), I .u64 8)] [] (I .u64 (v / 256)) := by rw [← hsh]; exact v_shr (by omega)
      repeat' (first | (refine k_op1 ?_; (first | refine o_sv rfl (by decide) ?_ | (refine k_sindex ?_; (refine o_val (v_sindex (s := tab) rfl (by omega) hb) rfl rfl (by decide) ?_)) | (refine k_bin ?_; (refine o_val (v_add (wi64 (by omega) (by omega))) rfl rfl (by decide) ?_)) | (refine k_conv ?_; (first | refine o_val (v_conv rfl rfl (wu8 (by omega) (by omega))) rfl rfl (by decide) ?_ | refine o_val (v_conv rfl rfl (wi64 (by omega) (by omega))) rfl rfl (by decide) ?_)) | refine o_val hr rfl rfl (by decide) ?_)) | (refine k_ops ?_; (first | refine o_go (by first | exact .inl rfl | exact .inr ⟨_, _, _, rfl, rfl, rfl⟩) ?_ | refine o_nil ?_)) | (refine k_run ?_; (first | refine r_seq ?_ | refine r_region ?_ | refine r_skip ?_ | refine r_if rfl (fun _ => ?_) (fun _ => ?_))))
      all_goals try (exfalso; omega)
      refine r_ret Try.func46 _ (res_one rfl rfl) ⟨?_, rfl⟩
      simp
/-! the writer -/
theorem size_s (n kk : Nat) : Eff1 Try.prog 48 [.ptr (kk, 500) 0] [((kk, 500), wbox n)] [] (I .i64 (n : Nat)) := by
  refine eff_of fun H hH => ?_
  have hH0 := hH ((kk, 500), wbox n) (by simp)
  refine spec_of Try.func48 (by kernel_rfl) rfl (by simp) ?_
  dsimp only [Try.f48]
  repeat' (first | (refine k_op1 ?_; (first | refine o_sv rfl (by decide) ?_ | (refine k_load ?_; (refine o_val (v_load (b := wbox n) rfl rfl rfl rfl) rfl (bk1 hH0) (by decide) ?_)) | (refine k_field ?_; (refine o_val (v_field rfl rfl) rfl rfl (by decide) ?_)))) | (refine k_ops ?_; (first | refine o_go (by first | exact .inl rfl | exact .inr ⟨_, _, _, rfl, rfl, rfl⟩) ?_ | refine o_nil ?_)) | (refine k_run ?_; (first | refine r_seq ?_ | refine r_region ?_)))
  exact r_ret Try.func48 _ (res_one rfl rfl) ⟨rfl, rfl⟩
theorem new_writer : ∀ H, Ab.Spec Try.prog 29 [] H (fun r H' => r = .new (.box [.d (.lit nilS), I .i64 0]) ∧ H' = H) := by
  intro H
  refine spec_of Try.func29 (by kernel_rfl) rfl (by simp) ?_
  dsimp only [Try.f29]
  repeat' (first | (refine k_op1 ?_; (first | refine o_sv rfl (by decide) ?_ | (refine k_box ?_; (refine o_does (d_box rfl rfl rfl rfl rfl (by decide)) ?_)) | (refine k_build ?_; (refine o_build rfl rfl rfl rfl rfl rfl rfl (by decide) ?_)))) | (refine k_ops ?_; (first | refine o_go (by first | exact .inl rfl | exact .inr ⟨_, _, _, rfl, rfl, rfl⟩) ?_ | refine o_nil ?_)) | (refine k_run ?_; (first | refine r_seq ?_ | refine r_region ?_)))
  exact r_ret Try.func29 _ (res_new (qs := [.d (.lit nilS), I .i64 0]) rfl rfl rfl rfl) ⟨rfl, rfl⟩
theorem wlen_s (n : Nat) : Eff1 Try.prog 32 [.ptr (0, 500) 0] [((0, 500), wbox n)] [] (I .i64 (n : Nat)) := by
  refine eff_of fun H hH => ?_
  have hH0 := hH ((0, 500), wbox n) (by simp)
  refine spec_of Try.func32 (by kernel_rfl) rfl (by simp) ?_
  dsimp only [Try.f32]
  repeat' (first | (refine k_op1 ?_; (first | refine o_sv rfl (by decide) ?_ | (refine k_field ?_; (refine o_val (v_field rfl rfl) rfl rfl (by decide) ?_)) | (refine k_call ?_; (refine o_effk (size_s n 1) rfl (bk1 hH0) (by decide) ?_)))) | (refine k_ops ?_; (first | refine o_go (by first | exact .inl rfl | exact .inr ⟨_, _, _, rfl, rfl, rfl⟩) ?_ | refine o_nil ?_)) | (refine k_run ?_; (first | refine r_seq ?_ | refine r_region ?_)))
  exact r_ret Try.func32 _ (res_one rfl rfl) ⟨rfl, rfl⟩
theorem wbytes_s (n : Nat) (b : List Int) (hb : b.length ≤ 1000000) : Eff1 Try.prog 31 [.ptr (0, 500) 0] [((0, 500), wbox n), ((0, 501), wrow b)] [] (.d (bytesL b)) := by
  refine eff_of fun H hH => ?_
  have hH0 := hH ((0, 500), wbox n) (by simp)
  have hH1 := hH ((0, 501), wrow b) (by simp)
  refine spec_of Try.func31 (by kernel_rfl) rfl (by simp) ?_
  dsimp only [Try.f31]
  repeat' (first | (refine k_op1 ?_; (first | refine o_sv rfl (by decide) ?_ | (refine k_load ?_; (refine o_val (v_load (b := wbox n) rfl rfl rfl rfl) rfl (bk1 hH0) (by decide) ?_)) | (refine k_field ?_; (refine o_val (v_field rfl rfl) rfl rfl (by decide) ?_)) | (refine k_lit ?_; (refine o_lito rfl rfl rfl rfl rfl rfl rfl rfl rfl (by decide) ?_)) | refine o_appr (q := ([] : List Int)) (r := b) (g := fun x => [Du8 x]) (e2 := 5) rfl rfl hH1 rfl rfl rfl (fun _ => rfl) rfl rfl (by decide) (by simp; omega) ?_)) | (refine k_ops ?_; (first | refine o_go (by first | exact .inl rfl | exact .inr ⟨_, _, _, rfl, rfl, rfl⟩) ?_ | refine o_nil ?_)) | (refine k_run ?_; (first | refine r_seq ?_ | refine r_region ?_)))
  refine r_freeze 9 rfl ?_
  exact r_ret Try.func31 _ (res_one rfl rfl) ⟨rfl, rfl⟩
end Go.Proofs.Ytlgdilkmcfpjjaa
namespace Go.Proofs.Ytlgdilkmcfpjjaa
open Go.Ab
set_option maxHeartbeats 20000000
set_option linter.unusedVariables false
set_option linter.unusedSimpArgs false
attribute [local irreducible] Run Ops Op1 Does Val Tr PureF Eff1 NF Rel EffV

theorem wbits_s (v : Int) (b : List Int) (n c : Nat) (hn : n ≤ 1000000) (hc : c ≤ 16) (hb : b.length = (n + 7) / 8) (h0 : 0 ≤ v) (hv : v < 2 ^ c) :
    EffV Try.prog 30 [.ptr (0, 500) 0, I .u64 v, I .i64 (c : Nat)] [((0, 500), wbox n), ((0, 501), wrow b)]
      [((0, 500), wbox (n + c)), ((0, 501), wrow (pbs b n (lowB v c)))] (I .i64 0) 501 := by
  refine effv_of fun H hH hQ => ?_
  have hH0 := hH ((0, 500), wbox n) (by simp)
  have hH1 := hH ((0, 501), wrow b) (by simp)
  refine specV_of Try.func30 (by kernel_rfl) rfl (by simp) ?_
  dsimp only [Try.f30]
  have h65 : v < 65536 := by
    have : (2 : Nat) ^ c ≤ 2 ^ 16 := Nat.pow_le_pow_right (by omega) hc
    have h2 : (2 : Int) ^ c = ((2 ^ c : Nat) : Int) := by simp
    rw [h2] at hv; omega
  obtain ⟨m, hm, hlen⟩ := len64_s v h0 h65
  have hmc := (hm c hc).2 hv
  refine r_take 500 0 500 hH0 rfl rfl ?_
  refine r_taker 501 0 501 (upd_ne hH1 (by simp)) rfl rfl ?_
  refine r_alias 100501 rfl ?_
  have hlow := lowest_s v b n c hn (by omega) hb
  repeat' (first | (refine k_op1 ?_; (first | refine o_sv rfl (by decide) ?_ | (refine k_call ?_; (first | refine o_fn hlen rfl (by decide) ?_ | refine o_effv2 (first := []) (cap := []) hlow rfl rfl rfl rfl rfl rfl (by decide) ?_)))) | (refine k_ops ?_; (first | refine o_go (by first | exact .inl rfl | exact .inr ⟨_, _, _, rfl, rfl, rfl⟩) ?_ | refine o_nil ?_ | refine o_no rfl rfl (by decide) ?_ | refine o_casep rfl rfl (fun _ => ?_) (fun _ => ?_))) | (refine k_run ?_; (first | refine r_seq ?_ | refine r_region ?_ | refine r_true rfl ?_ | refine r_skip ?_ | refine r_if rfl (fun _ => ?_) (fun _ => ?_))))
  all_goals try (exfalso; omega)
  refine r_givev 501 501 rfl rfl rfl rfl (quiet_two hQ) ?_
  refine r_give 500 0 500 (raw := wbox (n + c)) rfl rfl rfl rfl rfl ?_
  exact r_ret Try.func30 _ (res_one rfl rfl) ⟨rfl, (upd_two (by simp)).trans rfl⟩
end Go.Proofs.Ytlgdilkmcfpjjaa
