/- What the reference computes, for every input. -/
import Derived.Test.YtlgdilkmcfpjjaaWd
set_option linter.all false
set_option linter.unusedVariables false
set_option linter.unusedSimpArgs false
namespace Go.Proofs.Ytlgdilkmcfpjjaa
open Go.Ab Go.Srt
set_option maxHeartbeats 20000000
set_option linter.unusedVariables false
set_option linter.unusedSimpArgs false
attribute [local irreducible] Run Ops Op1 Does Val Tr PureF Eff1 NF Rel

structure RItem where
  weight : Int
  leaf : Bool
  occ : List Int
def RItem.cs (x : RItem) : List D := [Dint x.weight, Dbool x.leaf, ints x.occ]
def ritems (l : List RItem) : D := .slice (l.map RItem.cs)
def rle (x y : RItem) : Bool := decide (x.weight ≤ y.weight)
theorem rle_ord : Srt.Ord rle := ⟨fun a b c h1 h2 => by simp only [rle, decide_eq_true_eq] at *; omega, fun a b => by simp only [rle, decide_eq_true_eq]; omega⟩
theorem merge_s (L K : List RItem) (hl : L.length ≤ 100000) (hk : K.length ≤ 100000) : PureF Try.prog 26 [.d (ritems L), .d (ritems K)] (.d (ritems (mrg rle L K))) := by
  refine pure_of fun H => ?_
  refine spec_of Try.func26 (by kernel_rfl) rfl (by simp) ?_
  dsimp only [Try.f26]
  have hml := mrg_length (le := rle) L K
  repeat' (first | (refine k_op1 ?_; (first | refine o_sv rfl (by decide) ?_ | (refine k_blt ?_; (refine o_val (v_lenm rfl) rfl rfl (by decide) ?_)))) | (refine k_ops ?_; (first | refine o_go (by first | exact .inl rfl | exact .inr ⟨_, _, _, rfl, rfl, rfl⟩) ?_ | refine o_nil ?_)) | (refine k_run ?_; (first | refine r_seq ?_ | refine r_region ?_ | refine r_block ?_)))
  refine r_slot_row 5 1000 53 3 rfl (by decide) rfl ?_
  refine r_loop ?_
  refine r_less (r_inv (fun q : Nat × Nat × List RItem => ⟨48, [(0, .d (ritems L)), (5, .ref (0, 1000)), (6, I .i64 (q.2.1 : Nat)), (9, .d (ritems K)), (10, I .i64 K.length), (11, I .i64 (q.1 : Nat))], [(1000, .row 53 3 (q.2.2.map RItem.cs))], H⟩)
    (fun q => q.1 ≤ K.length ∧ q.2.1 ≤ L.length ∧ q.2.2 ++ mrg rle (L.drop q.2.1) (K.drop q.1) = mrg rle L K) (fun q => K.length - q.1) ?_ (0, 0, []) ⟨by simp, by simp, rfl⟩) rfl rfl
  intro ⟨k, i, acc⟩ ⟨h1, h2, h3⟩ ih
  simp only at h1 h2 h3 ih ⊢
  by_cases hlt : k < K.length
  · obtain ⟨p, hp⟩ : ∃ p, K[k]? = some p := ⟨_, List.getElem?_eq_getElem hlt⟩
    repeat' (first | (refine k_op1 ?_; (first | refine o_sv rfl (by decide) ?_ | (refine k_load ?_; (refine o_val (v_loadea rfl rfl) rfl rfl (by decide) ?_)) | (refine k_index ?_; (refine o_val (v_index rfl (by omega) (idx hp) rfl) rfl rfl (by decide) ?_)) | (refine k_store ?_; (refine o_store0 rfl rfl rfl rfl rfl rfl ?_)) | (refine k_alloc ?_; (refine o_does (d_alloc rfl rfl (by decide)) ?_)))) | (refine k_ops ?_; (first | refine o_go (by first | exact .inl rfl | exact .inr ⟨_, _, _, rfl, rfl, rfl⟩) ?_ | refine o_nil ?_)) | (refine k_run ?_; (first | refine r_seq ?_ | refine r_region ?_ | refine r_skip ?_ | refine r_block ?_ | refine r_if rfl (fun _ => ?_) (fun _ => ?_) | refine r_exit rfl ?_)))
    all_goals try (exfalso; omega)
    refine r_loop ?_
    refine r_less (r_inv (fun q : Nat × List RItem => ⟨48, [(0, .d (ritems L)), (5, .ref (0, 1000)), (6, I .i64 (q.1 : Nat)), (8, .ptr (0, 8) 0), (9, .d (ritems K)), (10, I .i64 K.length), (11, I .i64 (k : Nat))], [(1000, .row 53 3 (q.2.map RItem.cs)), (8, .box (p.cs.map .d))], H⟩)
      (fun q => q.1 ≤ L.length ∧ q.2 ++ mrg rle (L.drop q.1) (K.drop k) = mrg rle L K) (fun q => L.length - q.1) ?_ (i, acc) ⟨h2, h3⟩) rfl rfl
    intro ⟨i, acc⟩ ⟨g1, g2⟩ ih2
    simp only at g1 g2 ih2 ⊢
    have hla : acc.length ≤ 200000 := by have := congrArg List.length g2; simp at this; omega
    by_cases hi : i < L.length
    · obtain ⟨x, hx⟩ : ∃ x, L[i]? = some x := ⟨_, List.getElem?_eq_getElem hi⟩
      rw [drop_cons hx, drop_cons hp, mrg_cons] at g2
      repeat' (first | (refine k_op1 ?_; (first | refine o_sv rfl (by decide) ?_ | (refine k_load ?_; (first | refine o_val (v_loada rfl rfl rfl) rfl rfl (by decide) ?_ | refine o_val (v_loadea rfl rfl) rfl rfl (by decide) ?_)) | (refine k_index ?_; (refine o_val (v_index rfl (by omega) (idx hx) rfl) rfl rfl (by decide) ?_)) | (refine k_bin ?_; (refine o_val (v_add (wi64 (by omega) (by omega))) rfl rfl (by decide) ?_)) | (refine k_blt ?_; (first | refine o_app1 (g := RItem.cs) rfl rfl p rfl rfl rfl rfl rfl rfl rfl (by decide) (by omega) ?_ | refine o_app1 (g := RItem.cs) rfl rfl x rfl rfl rfl rfl rfl rfl rfl (by decide) (by omega) ?_)) | (refine k_lit ?_; (refine o_lit rfl rfl rfl rfl rfl rfl rfl rfl (by decide) ?_)))) | (refine k_ops ?_; (first | refine o_go (by first | exact .inl rfl | exact .inr ⟨_, _, _, rfl, rfl, rfl⟩) ?_ | refine o_nil ?_)) | (refine k_run ?_; (first | refine r_seq ?_ | refine r_region ?_ | refine r_false rfl ?_ | refine r_skip ?_ | refine r_block ?_ | refine r_tr ?_ | refine r_inBlock ?_ | refine r_if rfl (fun _ => ?_) (fun _ => ?_) | refine r_exit rfl ?_)) | (refine k_tr ?_; (first | (refine kt_end ?_; refine t_end mix (by kernel_rfl) ?_) | refine t_pass rfl rfl (by decide) ?_ | refine t_sv rfl (by first | exact rfl | exact ⟨_, rfl, rfl, rfl⟩) (by decide) ?_ | (refine kt_load ?_; (first | refine t_val (v_load rfl rfl rfl rfl) (by first | exact rfl | exact ⟨_, rfl, rfl, rfl⟩) rfl rfl (by decide) ?_ | refine t_val (v_loade rfl rfl rfl) (by first | exact rfl | exact ⟨_, rfl, rfl, rfl⟩) rfl rfl (by decide) ?_)) | (refine kt_field ?_; (first | refine t_val (v_field rfl rfl) (by first | exact rfl | exact ⟨_, rfl, rfl, rfl⟩) rfl rfl (by decide) ?_ | refine t_val (v_fielde rfl rfl) (by first | exact rfl | exact ⟨_, rfl, rfl, rfl⟩) rfl rfl (by decide) ?_)) | (refine kt_index ?_; (refine t_val (v_index rfl (by omega) (idx hx) rfl) (by first | exact rfl | exact ⟨_, rfl, rfl, rfl⟩) rfl rfl (by decide) ?_)) | (refine kt_blt ?_; (refine t_val (v_lenm rfl) (by first | exact rfl | exact ⟨_, rfl, rfl, rfl⟩) rfl rfl (by decide) ?_)) | (refine t_either rfl rfl (fun hg => ?_) (fun hg => ?_) <;> simp only [hg] <;> (try simp only [decide_eq_true_eq, decide_eq_false_iff_not, Bool.not_eq_true', Bool.not_eq_false'] at hg)))))
      all_goals try (exfalso; omega)
      all_goals first
        | (refine r_ren 35 1000 rfl rfl ?_
           exact r_less (ih2 (i + 1, acc ++ [x]) ⟨by simp only; omega, by rw [if_pos (by simp only [rle, decide_eq_true_eq]; omega), ← drop_cons hp] at g2; rw [← g2]; simp⟩ (by simp only; omega)) rfl rfl)
        | (refine r_ren 41 1000 rfl rfl ?_
           exact r_less (ih (k + 1, i, acc ++ [p]) ⟨by simp only; omega, g1, by rw [if_neg (by simp only [rle, decide_eq_true_eq]; omega), ← drop_cons hx] at g2; rw [← g2]; simp⟩ (by simp only; omega)) rfl rfl)
    · obtain rfl : i = L.length := by omega
      rw [List.drop_length, nil_mrg, drop_cons hp] at g2
      repeat' (first | (refine k_op1 ?_; (first | refine o_sv rfl (by decide) ?_ | (refine k_load ?_; (refine o_val (v_loada rfl rfl rfl) rfl rfl (by decide) ?_)) | (refine k_bin ?_; (refine o_val (v_add (wi64 (by omega) (by omega))) rfl rfl (by decide) ?_)) | (refine k_blt ?_; (refine o_app1 (g := RItem.cs) rfl rfl p rfl rfl rfl rfl rfl rfl rfl (by decide) (by omega) ?_)) | (refine k_lit ?_; (refine o_lit rfl rfl rfl rfl rfl rfl rfl rfl (by decide) ?_)))) | (refine k_ops ?_; (first | refine o_go (by first | exact .inl rfl | exact .inr ⟨_, _, _, rfl, rfl, rfl⟩) ?_ | refine o_nil ?_)) | (refine k_run ?_; (first | refine r_seq ?_ | refine r_region ?_ | refine r_false rfl ?_ | refine r_tr ?_ | refine r_inBlock ?_ | refine r_exit rfl ?_)) | (refine k_tr ?_; (first | (refine kt_end ?_; refine t_end mix (by kernel_rfl) ?_) | refine t_pass rfl rfl (by decide) ?_ | refine t_sv rfl (by first | exact rfl | exact ⟨_, rfl, rfl, rfl⟩) (by decide) ?_ | (refine kt_blt ?_; (refine t_val (v_lenm rfl) (by first | exact rfl | exact ⟨_, rfl, rfl, rfl⟩) rfl rfl (by decide) ?_)) | (refine t_either rfl rfl (fun hg => ?_) (fun hg => ?_) <;> simp only [hg] <;> (try simp only [decide_eq_true_eq, decide_eq_false_iff_not, Bool.not_eq_true', Bool.not_eq_false'] at hg)))))
      all_goals try (exfalso; omega)
      refine r_ren 41 1000 rfl rfl ?_
      exact r_less (ih (k + 1, L.length, acc ++ [p]) ⟨by simp only; omega, g1, by rw [List.drop_length, nil_mrg, ← g2]; simp⟩ (by simp only; omega)) rfl rfl
  · obtain rfl : k = K.length := by omega
    rw [List.drop_length, mrg_nil] at h3
    have hla : acc.length ≤ 200000 := by have := congrArg List.length h3; simp at this; omega
    repeat' (first | (refine k_op1 ?_; (first | refine o_sv rfl (by decide) ?_ | (refine k_slice ?_; (refine o_val (v_slicefm (g := RItem.cs) rfl (by omega) (by omega) (fun _ => rfl)) rfl rfl (by decide) ?_)) | (refine k_blt ?_; (refine o_apps (r := L.drop i) (g := RItem.cs) rfl rfl rfl rfl rfl (fun _ => rfl) rfl rfl (by decide) (by simp; omega) ?_)))) | (refine k_ops ?_; (first | refine o_go (by first | exact .inl rfl | exact .inr ⟨_, _, _, rfl, rfl, rfl⟩) ?_ | refine o_nil ?_)) | (refine k_run ?_; (first | refine r_seq ?_ | refine r_region ?_ | refine r_skip ?_ | refine r_block ?_ | refine r_if rfl (fun _ => ?_) (fun _ => ?_) | refine r_exit rfl ?_)))
    all_goals try (exfalso; omega)
    refine r_freeze 47 rfl ?_
    refine r_ret Try.func26 _ (res_one rfl rfl) ⟨?_, rfl⟩
    rw [h3]; rfl
end Go.Proofs.Ytlgdilkmcfpjjaa
namespace Go.Proofs.Ytlgdilkmcfpjjaa
open Go.Ab Go.Srt
set_option maxHeartbeats 20000000
set_option linter.unusedVariables false
set_option linter.unusedSimpArgs false
attribute [local irreducible] Run Ops Op1 Does Val Tr PureF Eff1 NF Rel

def rleaf (N i : Nat) (c : Int) : RItem := ⟨c, true, (List.replicate N (0 : Int)).set i 1⟩
def rlv (N : Nat) : List Int → Nat → List RItem
  | [], _ => []
  | c :: r, i => if 0 < c then rleaf N i c :: rlv N r (i + 1) else rlv N r (i + 1)
theorem rlv_snoc (N : Nat) (c : Int) : ∀ (A : List Int) (i : Nat), rlv N (A ++ [c]) i = rlv N A i ++ (if 0 < c then [rleaf N (i + A.length) c] else [])
  | [], i => by simp [rlv]
  | a :: A, i => by
    rw [List.cons_append, rlv, rlv, rlv_snoc N c A (i + 1)]
    have : i + 1 + A.length = i + (a :: A).length := by simp; omega
    rw [this]
    split <;> simp
theorem rlv_len (N : Nat) : ∀ (l : List Int) (i : Nat), (rlv N l i).length ≤ l.length
  | [], i => by simp [rlv]
  | n :: r, i => by
    have := rlv_len N r (i + 1)
    rw [rlv]; split <;> simp <;> omega
def rleaves (counts : List Int) : List RItem := isort rle (rlv counts.length counts 0)
/-- the packages of a list, with what they hold -/
def rpk : List RItem → List RItem
  | x :: y :: r => ⟨x.weight + y.weight, false, List.zipWith (· + ·) x.occ y.occ⟩ :: rpk r
  | _ => []
theorem rpk_short : ∀ (l : List RItem), l.length < 2 → rpk l = []
  | [], _ => by simp [rpk]
  | [x], _ => by simp [rpk]
  | x :: y :: r, h => by simp at h; omega
theorem rpk_len : ∀ (n : Nat) (l : List RItem), l.length ≤ n → (rpk l).length = l.length / 2
  | _, [], h => by simp [rpk]
  | _, [x], h => by simp [rpk]
  | 0, x :: y :: r, h => by simp at h
  | n + 1, x :: y :: r, h => by
    simp only [List.length_cons] at h
    rw [rpk, List.length_cons, rpk_len n r (by omega)]; simp only [List.length_cons]; omega
theorem rpk_mem : ∀ (n : Nat) (l : List RItem) (x : RItem), l.length ≤ n → x ∈ rpk l → ∃ u ∈ l, ∃ v ∈ l, x = ⟨u.weight + v.weight, false, List.zipWith (· + ·) u.occ v.occ⟩
  | _, [], x, h, hx => by simp [rpk] at hx
  | _, [y], x, h, hx => by simp [rpk] at hx
  | 0, x :: y :: r, _, h, _ => by simp at h
  | n + 1, a :: b :: r, x, h, hx => by
    rw [rpk, List.mem_cons] at hx
    rcases hx with rfl | hx
    · exact ⟨a, by simp, b, by simp, rfl⟩
    · simp only [List.length_cons] at h
      obtain ⟨u, hu, v, hv, he⟩ := rpk_mem n r x (by omega) hx
      exact ⟨u, by simp [hu], v, by simp [hv], he⟩
def rlvl (L : List RItem) : Nat → List RItem
  | 0 => L
  | k + 1 => mrg rle L (rpk (rlvl L k))
def sumAt : List RItem → Nat → Int
  | [], _ => 0
  | x :: r, s => x.occ.getD s 0 + sumAt r s
def one01 (c : Int) : Int := if 0 < c then 1 else 0
def refL (counts : List Int) (limit : Int) : List Int × Int :=
  if checkH counts limit ≠ 0 then ([], checkH counts limit)
  else if (rleaves counts).length < 2 then (counts.map one01, 0)
  else ((List.range counts.length).map (sumAt ((rlvl (rleaves counts) (limit.toNat - 1)).take (2 * (rleaves counts).length - 2))), 0)
theorem rlvl_len_le (L : List RItem) : ∀ k, (rlvl L k).length ≤ 2 * L.length
  | 0 => by rw [rlvl]; omega
  | k + 1 => by have := rlvl_len_le L k; rw [rlvl, mrg_length, rpk_len _ _ (Nat.le_refl _)]; omega
theorem rlvl_len_ge (L : List RItem) : ∀ k m, L.length ≤ m * 2 ^ k → 2 * L.length ≤ (rlvl L k).length + m
  | 0, m, h => by rw [rlvl]; omega
  | k + 1, m, h => by
    have := rlvl_len_ge L k (2 * m) (by rw [Nat.pow_succ] at h; rw [Nat.mul_comm 2 m, Nat.mul_assoc, Nat.mul_comm 2]; exact h)
    rw [rlvl, mrg_length, rpk_len _ _ (Nat.le_refl _)]; omega
/-- an item in order: its weight and what it holds -/
def ROK (N : Nat) (B C : Int) (x : RItem) : Prop := 0 ≤ x.weight ∧ x.weight ≤ B ∧ x.occ.length = N ∧ ∀ v ∈ x.occ, 0 ≤ v ∧ v ≤ C
theorem rlvl_mem (L : List RItem) (N : Nat) (hl : ∀ x ∈ L, ROK N 4096 1 x) : ∀ k, ∀ x ∈ rlvl L k, ROK N (4096 * 2 ^ k) (2 ^ k) x
  | 0, x, hx => by simpa using hl x hx
  | k + 1, x, hx => by
    have ih := rlvl_mem L N hl k
    rw [rlvl] at hx
    have hx := (mrg_perm (le := rle) _ _).mem_iff.1 hx
    rw [List.mem_append] at hx
    have h2 : (2 : Int) ^ (k + 1) = 2 ^ k + 2 ^ k := by rw [Int.pow_succ]; omega
    have hp : (1 : Int) ≤ 2 ^ k := by have : (0 : Int) < 2 ^ k := Int.pow_pos (by decide); omega
    rcases hx with hx | hx
    · obtain ⟨h1, h3, h4, h5⟩ := hl x hx
      exact ⟨h1, by omega, h4, fun v hv => by have := h5 v hv; omega⟩
    · obtain ⟨u, hu, v, hv, rfl⟩ := rpk_mem _ _ x (Nat.le_refl _) hx
      obtain ⟨u1, u2, u3, u4⟩ := ih u hu
      obtain ⟨v1, v2, v3, v4⟩ := ih v hv
      refine ⟨by simp only; omega, by simp only; omega, by simp [u3, v3], fun z hz => ?_⟩
      simp only at hz
      obtain ⟨i, hi, rfl⟩ := List.getElem_of_mem hz
      rw [List.getElem_zipWith]
      simp only [List.length_zipWith] at hi
      have a1 := u4 _ (List.getElem_mem (l := u.occ) (n := i) (by omega))
      have a2 := v4 _ (List.getElem_mem (l := v.occ) (n := i) (by omega))
      omega
theorem rlv_mem (N : Nat) : ∀ (l : List Int) (i : Nat), (∀ c ∈ l, 0 ≤ c ∧ c ≤ 4096) → ∀ x ∈ rlv N l i, ROK N 4096 1 x
  | [], i, _, x, h => by simp [rlv] at h
  | c :: r, i, hc, x, h => by
    have h0 := hc c (by simp)
    have hr := rlv_mem N r (i + 1) fun y hy => hc y (by simp [hy])
    rw [rlv] at h
    by_cases hp : 0 < c
    · rw [if_pos hp, List.mem_cons] at h
      rcases h with rfl | h
      · refine ⟨h0.1, h0.2, by simp [rleaf], fun v hv => ?_⟩
        rcases List.mem_or_eq_of_mem_set hv with hv | rfl
        · simp only [List.mem_replicate] at hv; omega
        · omega
      · exact hr x h
    · rw [if_neg hp] at h; exact hr x h
theorem list_eq {α : Type} {A B : List α} (h : A.length = B.length) (h2 : ∀ i, i < A.length → A[i]? = B[i]?) : A = B := by
  refine List.ext_getElem? fun i => ?_
  by_cases hi : i < A.length
  · exact h2 i hi
  · rw [List.getElem?_eq_none (by omega), List.getElem?_eq_none (by omega)]
end Go.Proofs.Ytlgdilkmcfpjjaa
namespace Go.Proofs.Ytlgdilkmcfpjjaa
open Go.Ab Go.Srt
set_option maxHeartbeats 20000000
set_option linter.unusedVariables false
set_option linter.unusedSimpArgs false
attribute [local irreducible] Run Ops Op1 Does Val Tr PureF Eff1 NF Rel

theorem rlv_lv (N : Nat) : ∀ (l : List Int) (i : Nat), (rlv N l i).length = (lv l i).length
  | [], i => rfl
  | c :: r, i => by rw [rlv, lv]; split <;> simp [rlv_lv N r (i + 1)]
theorem rep_map (R : List Int) : (List.replicate R.length (0 : Int)) = R.map (fun _ => 0) := by
  induction R with
  | nil => rfl
  | cons a R ih => simp [List.replicate_succ, ih]
theorem rlengths_s (counts : List Int) (limit : Int) (hl : counts.length ≤ 9223372036854775807) : PureF Try.prog 13 [.d (ints counts), I .i64 limit] (.tup [.d (ints (refL counts limit).1), I .i64 (refL counts limit).2]) := by
  refine pure_of fun H => ?_
  refine spec_of Try.func13 (by kernel_rfl) rfl (by simp) ?_
  dsimp only [Try.f13]
  by_cases hck : checkH counts limit ≠ 0
  · have e : refL counts limit = ([], checkH counts limit) := by rw [refL, if_pos hck]
    repeat' (first | (refine k_op1 ?_; (first | refine o_sv rfl (by decide) ?_ | (refine k_blt ?_; (refine o_val (v_lenm rfl) rfl rfl (by decide) ?_)) | (refine k_call ?_; (refine o_fn (rcheck_s counts limit hl) rfl (by decide) ?_)))) | (refine k_ops ?_; (first | refine o_go (by first | exact .inl rfl | exact .inr ⟨_, _, _, rfl, rfl, rfl⟩) ?_ | refine o_nil ?_)) | (refine k_run ?_; (first | refine r_seq ?_ | refine r_region ?_ | refine r_skip ?_ | refine r_ifn rfl (fun _ => ?_) (fun _ => ?_))))
    all_goals try (exfalso; omega)
    refine r_nil 4 rfl ?_
    refine r_ret Try.func13 _ (res_two rfl rfl rfl) ⟨?_, rfl⟩
    rw [e]; rfl
  have hck0 : checkH counts limit = 0 := by omega
  obtain ⟨hl1, hl2, hcl, hc, hn⟩ := checkH_ok hck0
  have hLl : (rleaves counts).length = (leavesL counts).length := by rw [rleaves, isort_length, rlv_lv, leavesL, isort_length]
  have e : refL counts limit = if (rleaves counts).length < 2 then (counts.map one01, 0) else ((List.range counts.length).map (sumAt ((rlvl (rleaves counts) (limit.toNat - 1)).take (2 * (rleaves counts).length - 2))), 0) := by rw [refL, if_neg hck]
  rw [← hLl] at hn
  have hll : (rleaves counts).length ≤ 1024 := by rw [rleaves, isort_length]; have := rlv_len counts.length counts 0; omega
  repeat' (first | (refine k_op1 ?_; (first | refine o_sv rfl (by decide) ?_ | (refine k_blt ?_; (refine o_val (v_lenm rfl) rfl rfl (by decide) ?_)) | (refine k_call ?_; (refine o_fn (rcheck_s counts limit hl) rfl (by decide) ?_)) | (refine k_make ?_; (refine o_make (xs := (counts.map (fun _ => (0 : Int))).map fun x => [Dint x]) rfl rfl (by omega) (by omega) rfl rfl rfl (by decide) (by rw [← rep_map]; simp) ?_)))) | (refine k_ops ?_; (first | refine o_go (by first | exact .inl rfl | exact .inr ⟨_, _, _, rfl, rfl, rfl⟩) ?_ | refine o_nil ?_)) | (refine k_run ?_; (first | refine r_seq ?_ | refine r_region ?_ | refine r_skip ?_ | refine r_block ?_ | refine r_ifn rfl (fun _ => ?_) (fun _ => ?_))))
  all_goals try (exfalso; omega)
  refine r_nil 8 rfl ?_
  refine r_loop ?_
  refine r_less (r_inv (fun q : Nat × List Int × List Int => ⟨181, [(0, .d (ints counts)), (1, I .i64 limit), (7, .ref (0, 30)), (8, .d (ritems (isort rle (rlv counts.length q.2.1 0)))), (31, .d (ints counts)), (32, I .i64 counts.length), (33, I .i64 (q.1 : Nat))], [(30, .row 3 1 ((q.2.1.map one01 ++ q.2.2.map (fun _ => (0 : Int))).map fun x => [Dint x]))], H⟩)
    (fun q => q.2.1 ++ q.2.2 = counts ∧ q.1 = q.2.1.length) (fun q => q.2.2.length) ?_ (0, [], counts) ⟨rfl, rfl⟩) rfl rfl
  intro ⟨k, A, R'⟩ ⟨hAR, hkA⟩ ih
  simp only at hAR hkA ih ⊢
  have hlA := congrArg List.length hAR
  simp only [List.length_append] at hlA
  have hasc := isort_asc rle_ord (rlv counts.length A 0)
  have hlen := isort_length (le := rle) (rlv counts.length A 0)
  have hlen2 := rlv_len counts.length A 0
  cases R' with
  | nil =>
    simp only [List.length_nil] at hlA
    rw [List.append_nil] at hAR
    subst hAR
    rw [show A.map one01 ++ ([] : List Int).map (fun _ => (0 : Int)) = A.map one01 by simp]
    rw [show isort rle (rlv A.length A 0) = rleaves A from rfl]
    by_cases hn2 : (rleaves A).length < 2
    · rw [if_pos hn2] at e
      repeat' (first | (refine k_op1 ?_; (first | refine o_sv rfl (by decide) ?_ | (refine k_blt ?_; (refine o_val (v_lenm rfl) rfl rfl (by decide) ?_)))) | (refine k_ops ?_; (first | refine o_go (by first | exact .inl rfl | exact .inr ⟨_, _, _, rfl, rfl, rfl⟩) ?_ | refine o_nil ?_)) | (refine k_run ?_; (first | refine r_seq ?_ | refine r_region ?_ | refine r_skip ?_ | refine r_block ?_ | refine r_if rfl (fun _ => ?_) (fun _ => ?_) | refine r_exit rfl ?_)))
      all_goals try (exfalso; omega)
      refine r_freeze 30 rfl ?_
      refine r_ret Try.func13 _ (res_two rfl rfl rfl) ⟨?_, rfl⟩
      rw [e]; rfl
    rw [if_neg hn2] at e
    repeat' (first | (refine k_op1 ?_; (first | refine o_sv rfl (by decide) ?_ | (refine k_blt ?_; (refine o_val (v_lenm rfl) rfl rfl (by decide) ?_)))) | (refine k_ops ?_; (first | refine o_go (by first | exact .inl rfl | exact .inr ⟨_, _, _, rfl, rfl, rfl⟩) ?_ | refine o_nil ?_)) | (refine k_run ?_; (first | refine r_seq ?_ | refine r_region ?_ | refine r_skip ?_ | refine r_block ?_ | refine r_if rfl (fun _ => ?_) (fun _ => ?_) | refine r_exit rfl ?_)))
    all_goals try (exfalso; omega)
    have hlm : ∀ x ∈ rleaves A, ROK A.length 4096 1 x := fun x hx => by
      rw [rleaves] at hx
      exact rlv_mem A.length A 0 hc x ((isort_perm (le := rle) _).mem_iff.1 hx)
    have hlv := rlvl_mem (rleaves A) A.length hlm
    have hpow : ∀ j : Nat, j ≤ 15 → (2 : Int) ^ j ≤ 32768 ∧ 0 ≤ (2 : Int) ^ j := fun j hj => by
      have : (2 : Nat) ^ j ≤ 2 ^ 15 := Nat.pow_le_pow_right (by omega) hj
      have h2 : ((2 : Int) ^ j) = ((2 ^ j : Nat) : Int) := by simp
      exact ⟨by rw [h2]; exact Int.ofNat_le.2 this, by rw [h2]; exact Int.natCast_nonneg _⟩
    obtain ⟨L, hL⟩ : ∃ L, rleaves A = L := ⟨_, rfl⟩
    rw [hL] at hlv hlm hll hn e hn2 ⊢
    clear hasc hlen hLl hlen2
    refine r_loop ?_
    refine r_less (r_inv (fun j : Nat => ⟨181, [(0, .d (ints A)), (1, I .i64 limit), (7, .ref (0, 30)), (8, .d (ritems L)), (13, .d (ritems (rlvl L j))), (14, I .i64 ((j + 1 : Nat) : Int))], [(30, .row 3 1 ((A.map one01).map fun x => [Dint x]))], H⟩)
      (fun j => (j : Int) + 1 ≤ limit) (fun j => (limit - j).toNat) ?_ 0 (by omega)) rfl rfl
    intro j hj ih3
    have hbl := rlvl_len_le L j
    by_cases hjl : (j : Int) + 1 < limit
    · repeat' (first | (refine k_op1 ?_; (first | refine o_sv rfl (by decide) ?_ | (refine k_blt ?_; (refine o_val (v_lenm rfl) rfl rfl (by decide) ?_)))) | (refine k_ops ?_; (first | refine o_go (by first | exact .inl rfl | exact .inr ⟨_, _, _, rfl, rfl, rfl⟩) ?_ | refine o_nil ?_)) | (refine k_run ?_; (first | refine r_seq ?_ | refine r_region ?_ | refine r_skip ?_ | refine r_block ?_ | refine r_if rfl (fun _ => ?_) (fun _ => ?_) | refine r_exit rfl ?_)))
      all_goals try (exfalso; omega)
      refine r_slot_row 15 1000 53 3 rfl (by decide) rfl ?_
      refine r_loop ?_
      obtain ⟨Bl, hB⟩ : ∃ Bl, rlvl L j = Bl := ⟨_, rfl⟩
      have hBm := hlv j
      have hp := hpow j (by omega)
      rw [hB] at hbl hBm ⊢
      have hpl := rpk_len Bl.length Bl (Nat.le_refl _)
      refine r_less (r_inv (fun q : Nat × List RItem => ⟨181, [(0, .d (ints A)), (1, I .i64 limit), (7, .ref (0, 30)), (8, .d (ritems L)), (13, .d (ritems Bl)), (14, I .i64 ((j + 1 : Nat) : Int)), (15, .ref (0, 1000)), (16, I .i64 (q.1 : Nat))], [(30, .row 3 1 ((A.map one01).map fun x => [Dint x])), (1000, .row 53 3 (q.2.map RItem.cs))], H⟩)
        (fun q => q.1 ≤ Bl.length + 1 ∧ q.2 ++ rpk (Bl.drop q.1) = rpk Bl) (fun q => Bl.length + 1 - q.1) ?_ (0, []) ⟨by simp, rfl⟩) rfl rfl
      intro ⟨k, acc⟩ ⟨g1, g2⟩ ih4
      simp only at g1 g2 ih4 ⊢
      have hla : acc.length ≤ 200000 := by have := congrArg List.length g2; simp at this; omega
      by_cases hlt : k + 1 < Bl.length
      · obtain ⟨x, hx⟩ : ∃ x, Bl[k]? = some x := ⟨_, List.getElem?_eq_getElem (by omega)⟩
        obtain ⟨y, hy⟩ : ∃ y, Bl[k + 1]? = some y := ⟨_, List.getElem?_eq_getElem hlt⟩
        obtain ⟨x1, x2, x3, x4⟩ := hBm x (List.mem_of_getElem? hx)
        obtain ⟨y1, y2, y3, y4⟩ := hBm y (List.mem_of_getElem? hy)
        rw [drop_cons hx, drop_cons hy, rpk] at g2
        repeat' (first | (refine k_op1 ?_; (first | refine o_sv rfl (by decide) ?_ | (refine k_bin ?_; (refine o_val (v_add (wi64 (by omega) (by omega))) rfl rfl (by decide) ?_)) | (refine k_blt ?_; (refine o_val (v_lenm rfl) rfl rfl (by decide) ?_)))) | (refine k_ops ?_; (first | refine o_go (by first | exact .inl rfl | exact .inr ⟨_, _, _, rfl, rfl, rfl⟩) ?_ | refine o_nil ?_)) | (refine k_run ?_; (first | refine r_seq ?_ | refine r_region ?_ | refine r_skip ?_ | refine r_block ?_ | refine r_tr ?_ | refine r_if rfl (fun _ => ?_) (fun _ => ?_) | refine r_exit rfl ?_)) | (refine k_tr ?_; (first | (refine kt_end ?_; refine t_end mix (by kernel_rfl) ?_) | refine t_sv rfl (by first | exact rfl | exact ⟨_, rfl, rfl, rfl⟩) (by decide) ?_ | (refine kt_load ?_; (refine t_val (v_loade rfl rfl rfl) (by first | exact rfl | exact ⟨_, rfl, rfl, rfl⟩) rfl rfl (by decide) ?_)) | (refine kt_field ?_; (refine t_val (v_fielde rfl rfl) (by first | exact rfl | exact ⟨_, rfl, rfl, rfl⟩) rfl rfl (by decide) ?_)) | (refine kt_index ?_; (first | refine t_val (v_index rfl (by omega) (idx hx) rfl) (by first | exact rfl | exact ⟨_, rfl, rfl, rfl⟩) rfl rfl (by decide) ?_ | refine t_val (v_index rfl (by omega) (idx hy) rfl) (by first | exact rfl | exact ⟨_, rfl, rfl, rfl⟩) rfl rfl (by decide) ?_)) | (refine kt_bin ?_; (refine t_val (v_add (wi64 (by omega) (by omega))) (by first | exact rfl | exact ⟨_, rfl, rfl, rfl⟩) rfl rfl (by decide) ?_)) | (refine kt_blt ?_; (refine t_val (v_lenm rfl) (by first | exact rfl | exact ⟨_, rfl, rfl, rfl⟩) rfl rfl (by decide) ?_)) | (refine kt_store ?_; (refine t_store0 (by first | exact rfl | exact ⟨_, rfl, rfl, rfl⟩) rfl rfl rfl rfl rfl rfl ?_)) | (refine kt_alloc ?_; (refine t_alloc (by first | exact rfl | exact ⟨_, rfl, rfl, rfl⟩) rfl rfl (by decide) ?_)) | (refine kt_build ?_; (refine t_buildr 111 (by first | exact rfl | exact ⟨_, rfl, rfl, rfl⟩) rfl rfl rfl rfl rfl rfl rfl rfl (by decide) ?_)) | (refine kt_make ?_; (refine t_make (xs := (List.replicate A.length (0 : Int)).map fun x => [Dint x]) (by first | exact rfl | exact ⟨_, rfl, rfl, rfl⟩) rfl rfl (by omega) (by omega) rfl rfl rfl (by decide) (by simp) ?_)))))
        all_goals try (exfalso; omega)
        obtain ⟨Z, hZ⟩ : ∃ Z, List.zipWith (· + ·) x.occ y.occ = Z := ⟨_, rfl⟩
        have hZl : Z.length = A.length := by rw [← hZ]; simp [x3, y3]
        refine r_loop ?_
        refine r_less (r_inv (fun q : Nat × List Int => ⟨181, [(0, .d (ints A)), (1, I .i64 limit), (7, .ref (0, 30)), (8, .d (ritems L)), (13, .d (ritems Bl)), (14, I .i64 ((j + 1 : Nat) : Int)), (15, .ref (0, 1000)), (16, I .i64 (k : Nat)), (17, .ptr (0, 17) 0), (113, .d (ints A)), (114, I .i64 A.length), (115, I .i64 (q.1 : Nat))],
            [(30, .row 3 1 ((A.map one01).map fun x => [Dint x])), (1000, .row 53 3 (acc.map RItem.cs)), (17, .box [.d (Dint (x.weight + y.weight)), .d (Dbool false), .ref (0, 111)]), (111, .row 3 1 (q.2.map fun x => [Dint x]))], H⟩)
          (fun q => q.1 ≤ A.length ∧ q.2.length = A.length ∧ ∀ i, i < q.1 → q.2[i]? = Z[i]?) (fun q => A.length - q.1) ?_ (0, List.replicate A.length 0) ⟨by simp, by simp, fun i hi => by simp only at hi; omega⟩) rfl rfl
        intro ⟨s, row⟩ ⟨m1, m2, m3⟩ ih5
        simp only at m1 m2 m3 ih5 ⊢
        by_cases hs : s < A.length
        · obtain ⟨u, hu⟩ : ∃ u, x.occ[s]? = some u := ⟨_, List.getElem?_eq_getElem (by omega)⟩
          obtain ⟨v, hv⟩ : ∃ v, y.occ[s]? = some v := ⟨_, List.getElem?_eq_getElem (by omega)⟩
          obtain ⟨r, hr⟩ : ∃ r, row[s]? = some r := ⟨_, List.getElem?_eq_getElem (by omega)⟩
          have hu4 := x4 u (List.mem_of_getElem? hu)
          have hv4 := y4 v (List.mem_of_getElem? hv)
          repeat' (first | (refine k_op1 ?_; (first | refine o_sv rfl (by decide) ?_ | (refine k_bin ?_; (refine o_val (v_add (wi64 (by omega) (by omega))) rfl rfl (by decide) ?_)))) | (refine k_ops ?_; (first | refine o_go (by first | exact .inl rfl | exact .inr ⟨_, _, _, rfl, rfl, rfl⟩) ?_ | refine o_nil ?_)) | (refine k_run ?_; (first | refine r_seq ?_ | refine r_region ?_ | refine r_skip ?_ | refine r_block ?_ | refine r_tr ?_ | refine r_inBlock ?_ | refine r_if rfl (fun _ => ?_) (fun _ => ?_) | refine r_exit rfl ?_)) | (refine k_tr ?_; (first | (refine kt_end ?_; refine t_end mix (by kernel_rfl) ?_) | refine t_sv rfl (by first | exact rfl | exact ⟨_, rfl, rfl, rfl⟩) (by decide) ?_ | (refine kt_load ?_; (first | refine t_val (v_load rfl rfl rfl rfl) (by first | exact rfl | exact ⟨_, rfl, rfl, rfl⟩) rfl rfl (by decide) ?_ | refine t_val (v_loade rfl rfl rfl) (by first | exact rfl | exact ⟨_, rfl, rfl, rfl⟩) rfl rfl (by decide) ?_)) | (refine kt_field ?_; (first | refine t_val (v_field rfl rfl) (by first | exact rfl | exact ⟨_, rfl, rfl, rfl⟩) rfl rfl (by decide) ?_ | refine t_val (v_fielde rfl rfl) (by first | exact rfl | exact ⟨_, rfl, rfl, rfl⟩) rfl rfl (by decide) ?_)) | (refine kt_index ?_; (first | refine t_val (v_index rfl (by omega) (idx hx) rfl) (by first | exact rfl | exact ⟨_, rfl, rfl, rfl⟩) rfl rfl (by decide) ?_ | refine t_val (v_index rfl (by omega) (idx hy) rfl) (by first | exact rfl | exact ⟨_, rfl, rfl, rfl⟩) rfl rfl (by decide) ?_ | refine t_val (v_index rfl (by omega) (idx hu) rfl) (by first | exact rfl | exact ⟨_, rfl, rfl, rfl⟩) rfl rfl (by decide) ?_ | refine t_val (v_index rfl (by omega) (idx hv) rfl) (by first | exact rfl | exact ⟨_, rfl, rfl, rfl⟩) rfl rfl (by decide) ?_ | refine t_val (v_rindex rfl (by omega) (by rw [List.length_map]; omega) rfl) (by first | exact rfl | exact ⟨_, rfl, rfl, rfl⟩) rfl rfl (by decide) ?_)) | (refine kt_bin ?_; (refine t_val (v_add (wi64 (by omega) (by omega))) (by first | exact rfl | exact ⟨_, rfl, rfl, rfl⟩) rfl rfl (by decide) ?_)) | (refine kt_store ?_; (refine t_rstorem (u + v) (by first | exact rfl | exact ⟨_, rfl, rfl, rfl⟩) rfl rfl rfl rfl hr rfl rfl rfl rfl ?_)))))
          all_goals try (exfalso; omega)
          refine r_less (ih5 (s + 1, row.set s (u + v)) ⟨by simp only; omega, by simp only [List.length_set]; exact m2, fun i hi => ?_⟩ (by simp only; omega)) rfl rfl
          simp only at hi ⊢
          rw [List.getElem?_set]
          by_cases his : s = i
          · subst his
            rw [if_pos rfl, if_pos (by omega), ← hZ, List.getElem?_zipWith, hu, hv]
          · rw [if_neg his]; exact m3 i (by omega)
        · obtain rfl : s = A.length := by omega
          have hrow : row = Z := list_eq (by omega) fun i hi => m3 i (by omega)
          subst hrow
          refine r_freeze 111 rfl ?_
          repeat' (first | (refine k_op1 ?_; (first | refine o_sv rfl (by decide) ?_ | (refine k_load ?_; (refine o_val (v_loadp rfl rfl rfl rfl) rfl rfl (by decide) ?_)) | (refine k_bin ?_; (refine o_val (v_add (wi64 (by omega) (by omega))) rfl rfl (by decide) ?_)) | (refine k_blt ?_; (refine o_app1 (g := RItem.cs) rfl rfl ⟨x.weight + y.weight, false, row⟩ rfl rfl rfl rfl rfl rfl rfl (by decide) (by omega) ?_)) | (refine k_lit ?_; (refine o_lit rfl rfl rfl rfl rfl rfl rfl rfl (by decide) ?_)))) | (refine k_ops ?_; (first | refine o_go (by first | exact .inl rfl | exact .inr ⟨_, _, _, rfl, rfl, rfl⟩) ?_ | refine o_nil ?_)) | (refine k_run ?_; (first | refine r_seq ?_ | refine r_region ?_ | refine r_skip ?_ | refine r_block ?_ | refine r_tr ?_ | refine r_inBlock ?_ | refine r_if rfl (fun _ => ?_) (fun _ => ?_) | refine r_exit rfl ?_)) | (refine k_tr ?_; (first | refine t_sv rfl (by first | exact rfl | exact ⟨_, rfl, rfl, rfl⟩) (by decide) ?_ | (refine kt_load ?_; (first | refine t_val (v_load rfl rfl rfl rfl) (by first | exact rfl | exact ⟨_, rfl, rfl, rfl⟩) rfl rfl (by decide) ?_ | refine t_val (v_loade rfl rfl rfl) (by first | exact rfl | exact ⟨_, rfl, rfl, rfl⟩) rfl rfl (by decide) ?_)) | (refine kt_field ?_; (first | refine t_val (v_field rfl rfl) (by first | exact rfl | exact ⟨_, rfl, rfl, rfl⟩) rfl rfl (by decide) ?_ | refine t_val (v_fielde rfl rfl) (by first | exact rfl | exact ⟨_, rfl, rfl, rfl⟩) rfl rfl (by decide) ?_)) | (refine kt_index ?_; (refine t_val (v_index rfl (by omega) (idx hx) rfl) (by first | exact rfl | exact ⟨_, rfl, rfl, rfl⟩) rfl rfl (by decide) ?_)))))
          all_goals try (exfalso; omega)
          refine r_ren 144 1000 rfl rfl ?_
          exact r_less (ih4 (k + 2, acc ++ [⟨x.weight + y.weight, false, row⟩]) ⟨by simp only; omega, by rw [← g2, hZ]; simp⟩ (by simp only; omega)) rfl rfl
      · rw [rpk_short _ (by rw [List.length_drop]; omega), List.append_nil] at g2
        subst g2
        refine r_freeze 1000 rfl ?_
        repeat' (first | (refine k_op1 ?_; (first | refine o_sv rfl (by decide) ?_ | (refine k_bin ?_; (refine o_val (v_add (wi64 (by omega) (by omega))) rfl rfl (by decide) ?_)) | (refine k_blt ?_; (refine o_val (v_lenm rfl) rfl rfl (by decide) ?_)) | (refine k_call ?_; (refine o_fn (merge_s L (rpk Bl) (by omega) (by omega)) rfl (by decide) ?_)))) | (refine k_ops ?_; (first | refine o_go (by first | exact .inl rfl | exact .inr ⟨_, _, _, rfl, rfl, rfl⟩) ?_ | refine o_nil ?_)) | (refine k_run ?_; (first | refine r_seq ?_ | refine r_region ?_ | refine r_skip ?_ | refine r_block ?_ | refine r_tr ?_ | refine r_inBlock ?_ | refine r_if rfl (fun _ => ?_) (fun _ => ?_) | refine r_exit rfl ?_)) | (refine k_tr ?_; (refine t_sv rfl (by first | exact rfl | exact ⟨_, rfl, rfl, rfl⟩) (by decide) ?_)))
        all_goals try (exfalso; omega)
        refine r_less (ih3 (j + 1) (by omega) (by omega)) ?_ rfl
        rw [rlvl, hB]; rfl
    · have hjl2 : j = limit.toNat - 1 := by omega
      have hge := rlvl_len_ge L j 2 (by
        have h2 : limit.toNat = j + 1 := by omega
        rw [h2, Nat.pow_succ] at hn
        rw [Nat.mul_comm]; exact hn)
      obtain ⟨Bl, hB⟩ : ∃ Bl, rlvl L j = Bl := ⟨_, rfl⟩
      have hBm := hlv j
      have hp := hpow j (by omega)
      rw [← hjl2] at e
      rw [hB] at hbl hBm hge e ⊢
      repeat' (first | (refine k_op1 ?_; (first | refine o_sv rfl (by decide) ?_ | (refine k_blt ?_; (refine o_val (v_lenm rfl) rfl rfl (by decide) ?_)))) | (refine k_ops ?_; (first | refine o_go (by first | exact .inl rfl | exact .inr ⟨_, _, _, rfl, rfl, rfl⟩) ?_ | refine o_nil ?_)) | (refine k_run ?_; (first | refine r_seq ?_ | refine r_region ?_ | refine r_skip ?_ | refine r_block ?_ | refine r_if rfl (fun _ => ?_) (fun _ => ?_) | refine r_exit rfl ?_)))
      all_goals try (exfalso; omega)
      obtain ⟨T, hT⟩ : ∃ T, Bl.take (2 * L.length - 2) = T := ⟨_, rfl⟩
      have hTl : T.length ≤ 2048 := by rw [← hT, List.length_take]; omega
      have hTm : ∀ x ∈ T, ROK A.length (4096 * 2 ^ j) (2 ^ j) x := fun x hx => by rw [← hT] at hx; exact hBm x (List.mem_of_mem_take hx)
      rw [hT] at e
      refine r_loop ?_
      refine r_less (r_inv (fun q : Nat × List Int => ⟨181, [(7, .ref (0, 30)), (8, .d (ritems L)), (13, .d (ritems Bl)), (148, .d (ints A)), (149, I .i64 A.length), (150, I .i64 (q.1 : Nat))], [(30, .row 3 1 (q.2.map fun x => [Dint x]))], H⟩)
        (fun q => q.1 ≤ A.length ∧ q.2.length = A.length ∧ ∀ i, i < q.1 → q.2[i]? = some (sumAt T i)) (fun q => A.length - q.1) ?_ (0, A.map one01) ⟨by simp, by simp, fun i hi => by simp only at hi; omega⟩) rfl rfl
      intro ⟨s, ln⟩ ⟨m1, m2, m3⟩ ih5
      simp only at m1 m2 m3 ih5 ⊢
      by_cases hs : s < A.length
      · obtain ⟨z, hz⟩ : ∃ z, ln[s]? = some z := ⟨_, List.getElem?_eq_getElem (by omega)⟩
        repeat' (first | (refine k_op1 ?_; (first | refine o_sv rfl (by decide) ?_ | (refine k_index ?_; (refine o_val (v_rindex rfl (by omega) (by rw [List.length_map]; omega) rfl) rfl rfl (by decide) ?_)) | (refine k_bin ?_; (first | refine o_val (v_sub (wi64 (by omega) (by omega))) rfl rfl (by decide) ?_ | refine o_val (v_mul (wi64 (by omega) (by omega))) rfl rfl (by decide) ?_)) | (refine k_slice ?_; (refine o_val (v_slicetm (g := RItem.cs) rfl (by omega) (by omega) (fun _ => rfl)) rfl rfl (by decide) ?_)) | (refine k_blt ?_; (refine o_val (v_lenm rfl) rfl rfl (by decide) ?_)) | (refine k_store ?_; (refine o_rstorem (0 : Int) rfl rfl rfl rfl hz rfl rfl rfl rfl ?_)))) | (refine k_ops ?_; (first | refine o_go (by first | exact .inl rfl | exact .inr ⟨_, _, _, rfl, rfl, rfl⟩) ?_ | refine o_nil ?_)) | (refine k_run ?_; (first | refine r_seq ?_ | refine r_region ?_ | refine r_skip ?_ | refine r_block ?_ | refine r_if rfl (fun _ => ?_) (fun _ => ?_) | refine r_exit rfl ?_)))
        all_goals try (exfalso; omega)
        rw [show (2 * (L.length : Int) - 2).toNat = 2 * L.length - 2 by omega, hT]
        refine r_loop ?_
        refine r_less (r_inv (fun q : Nat × Int => ⟨181, [(7, .ref (0, 30)), (8, .d (ritems L)), (13, .d (ritems Bl)), (19, I .i64 (s : Nat)), (148, .d (ints A)), (149, I .i64 A.length), (150, I .i64 (s : Nat)), (161, .d (.slice (T.map RItem.cs))), (162, I .i64 T.length), (163, I .i64 (q.1 : Nat))], [(30, .row 3 1 ((ln.set s q.2).map fun x => [Dint x]))], H⟩)
          (fun q => q.1 ≤ T.length ∧ 0 ≤ q.2 ∧ q.2 ≤ q.1 * 32768 ∧ q.2 + sumAt (T.drop q.1) s = sumAt T s) (fun q => T.length - q.1) ?_ (0, 0) ⟨by simp, by simp, by simp, by simp⟩) rfl rfl
        intro ⟨i, a⟩ ⟨n1, n2, n3, n4⟩ ih6
        simp only at n1 n2 n3 n4 ih6 ⊢
        by_cases hi : i < T.length
        · obtain ⟨x, hx⟩ : ∃ x, T[i]? = some x := ⟨_, List.getElem?_eq_getElem hi⟩
          obtain ⟨x1, x2, x3, x4⟩ := hTm x (List.mem_of_getElem? hx)
          obtain ⟨u, hu⟩ : ∃ u, x.occ[s]? = some u := ⟨_, List.getElem?_eq_getElem (by omega)⟩
          have hu4 := x4 u (List.mem_of_getElem? hu)
          have hgu : x.occ.getD s 0 = u := by simp [List.getD, hu]
          have hza : (ln.set s a)[s]? = some a := by rw [List.getElem?_set, if_pos rfl, if_pos (by omega)]
          rw [drop_cons hx, sumAt, hgu] at n4
          repeat' (first | (refine k_op1 ?_; (first | refine o_sv rfl (by decide) ?_ | (refine k_load ?_; (refine o_val (v_loadea rfl rfl) rfl rfl (by decide) ?_)) | (refine k_index ?_; (refine o_val (v_index rfl (by omega) (idx hx) rfl) rfl rfl (by decide) ?_)) | (refine k_bin ?_; (refine o_val (v_add (wi64 (by omega) (by omega))) rfl rfl (by decide) ?_)) | (refine k_store ?_; (refine o_store0 rfl rfl rfl rfl rfl rfl ?_)) | (refine k_alloc ?_; (refine o_does (d_alloc rfl rfl (by decide)) ?_)))) | (refine k_ops ?_; (first | refine o_go (by first | exact .inl rfl | exact .inr ⟨_, _, _, rfl, rfl, rfl⟩) ?_ | refine o_nil ?_)) | (refine k_run ?_; (first | refine r_seq ?_ | refine r_region ?_ | refine r_skip ?_ | refine r_block ?_ | refine r_tr ?_ | refine r_inBlock ?_ | refine r_if rfl (fun _ => ?_) (fun _ => ?_) | refine r_exit rfl ?_)) | (refine k_tr ?_; (first | (refine kt_end ?_; refine t_end mix (by kernel_rfl) ?_) | refine t_sv rfl (by first | exact rfl | exact ⟨_, rfl, rfl, rfl⟩) (by decide) ?_ | (refine kt_load ?_; (first | refine t_val (v_rloadm hza rfl rfl rfl) (by first | exact rfl | exact ⟨_, rfl, rfl, rfl⟩) rfl rfl (by decide) ?_ | refine t_val (v_load rfl rfl rfl rfl) (by first | exact rfl | exact ⟨_, rfl, rfl, rfl⟩) rfl rfl (by decide) ?_ | refine t_val (v_loade rfl rfl rfl) (by first | exact rfl | exact ⟨_, rfl, rfl, rfl⟩) rfl rfl (by decide) ?_)) | (refine kt_field ?_; (refine t_val (v_field rfl rfl) (by first | exact rfl | exact ⟨_, rfl, rfl, rfl⟩) rfl rfl (by decide) ?_)) | (refine kt_index ?_; (first | refine t_val (v_index rfl (by omega) (idx hu) rfl) (by first | exact rfl | exact ⟨_, rfl, rfl, rfl⟩) rfl rfl (by decide) ?_ | refine t_val (v_rindex rfl (by omega) (by rw [List.length_map, List.length_set]; omega) rfl) (by first | exact rfl | exact ⟨_, rfl, rfl, rfl⟩) rfl rfl (by decide) ?_)) | (refine kt_bin ?_; (refine t_val (v_add (wi64 (by omega) (by omega))) (by first | exact rfl | exact ⟨_, rfl, rfl, rfl⟩) rfl rfl (by decide) ?_)) | (refine kt_store ?_; (refine t_rstorem (a + u) (by first | exact rfl | exact ⟨_, rfl, rfl, rfl⟩) rfl rfl rfl rfl hza rfl rfl rfl (List.set_set _) ?_)))))
          all_goals try (exfalso; omega)
          exact r_less (ih6 (i + 1, a + u) ⟨by simp only; omega, by simp only; omega, by simp only; omega, by simp only; omega⟩ (by simp only; omega)) rfl rfl
        · obtain rfl : i = T.length := by omega
          rw [List.drop_length, sumAt] at n4
          repeat' (first | (refine k_op1 ?_; (first | refine o_sv rfl (by decide) ?_ | (refine k_bin ?_; (refine o_val (v_add (wi64 (by omega) (by omega))) rfl rfl (by decide) ?_)))) | (refine k_ops ?_; (first | refine o_go (by first | exact .inl rfl | exact .inr ⟨_, _, _, rfl, rfl, rfl⟩) ?_ | refine o_nil ?_)) | (refine k_run ?_; (first | refine r_seq ?_ | refine r_region ?_ | refine r_skip ?_ | refine r_block ?_ | refine r_inBlock ?_ | refine r_if rfl (fun _ => ?_) (fun _ => ?_) | refine r_exit rfl ?_)))
          all_goals try (exfalso; omega)
          refine r_less (ih5 (s + 1, ln.set s a) ⟨by simp only; omega, by simp only [List.length_set]; exact m2, fun i hi => ?_⟩ (by simp only; omega)) rfl rfl
          simp only at hi ⊢
          rw [List.getElem?_set]
          by_cases his : s = i
          · subst his
            rw [if_pos rfl, if_pos (by omega)]; congr 1; omega
          · rw [if_neg his]; exact m3 i (by omega)
      · obtain rfl : s = A.length := by omega
        repeat' (first | (refine k_op1 ?_; (refine o_sv rfl (by decide) ?_)) | (refine k_ops ?_; (first | refine o_go (by first | exact .inl rfl | exact .inr ⟨_, _, _, rfl, rfl, rfl⟩) ?_ | refine o_nil ?_)) | (refine k_run ?_; (first | refine r_seq ?_ | refine r_region ?_ | refine r_skip ?_ | refine r_block ?_ | refine r_if rfl (fun _ => ?_) (fun _ => ?_) | refine r_exit rfl ?_)))
        all_goals try (exfalso; omega)
        refine r_freeze 30 rfl ?_
        refine r_ret Try.func13 _ (res_two rfl rfl rfl) ⟨?_, rfl⟩
        have hln : ln = (List.range A.length).map (sumAt T) := list_eq (by simp [m2]) fun i hi => by
          rw [m3 i (by omega), List.getElem?_map, List.getElem?_range (by omega)]; rfl
        rw [e, hln]; rfl
  | cons c R' =>
    have hc0 := hc c (by rw [← hAR]; simp)
    have hck' : counts[k]? = some c := get_of_eq hAR.symm hkA
    simp only [List.length_cons] at hlA
    by_cases hcz : c = 0
    · subst hcz
      repeat' (first | (refine k_op1 ?_; (first | refine o_sv rfl (by decide) ?_ | (refine k_load ?_; (refine o_val (v_loade rfl rfl rfl) rfl rfl (by decide) ?_)) | (refine k_index ?_; (refine o_val (v_index rfl (by omega) (idx hck') rfl) rfl rfl (by decide) ?_)) | (refine k_bin ?_; (refine o_val (v_add (wi64 (by omega) (by omega))) rfl rfl (by decide) ?_)) | (refine k_blt ?_; (refine o_val (v_lenm rfl) rfl rfl (by decide) ?_)))) | (refine k_ops ?_; (first | refine o_go (by first | exact .inl rfl | exact .inr ⟨_, _, _, rfl, rfl, rfl⟩) ?_ | refine o_nil ?_)) | (refine k_run ?_; (first | refine r_seq ?_ | refine r_region ?_ | refine r_true rfl ?_ | refine r_skip ?_ | refine r_block ?_ | refine r_if rfl (fun _ => ?_) (fun _ => ?_) | refine r_exit rfl ?_)))
      all_goals try (exfalso; omega)
      rw [show A.map one01 ++ ((0 : Int) :: R').map (fun _ => (0 : Int)) = (A ++ [0]).map one01 ++ R'.map (fun _ => (0 : Int)) by simp [one01]]
      refine r_less (ih (k + 1, A ++ [0], R') ⟨by rw [← hAR]; simp, by simp [hkA]⟩ (by simp)) ?_ rfl
      simp only [rlv_snoc, if_neg (show ¬ (0 : Int) < 0 by omega), List.append_nil]; rfl
    · have hpos : 0 < c := by omega
      have hz0 : (counts.map (fun _ => (0 : Int)))[k]? = some 0 := by rw [List.getElem?_map, hck']; rfl
      repeat' (first | (refine k_op1 ?_; (first | refine o_sv rfl (by decide) ?_ | (refine k_load ?_; (first | refine o_val (v_load rfl rfl rfl rfl) rfl rfl (by decide) ?_ | refine o_val (v_loade rfl rfl rfl) rfl rfl (by decide) ?_)) | (refine k_field ?_; (refine o_val (v_field rfl rfl) rfl rfl (by decide) ?_)) | (refine k_index ?_; (first | refine o_val (v_index rfl (by omega) (idx hck') rfl) rfl rfl (by decide) ?_ | refine o_val (v_rindex rfl (by omega) (by simp only [List.length_map]; omega) rfl) rfl rfl (by decide) ?_)) | (refine k_bin ?_; (refine o_val (v_add (wi64 (by omega) (by omega))) rfl rfl (by decide) ?_)) | (refine k_blt ?_; (refine o_val (v_lenm rfl) rfl rfl (by decide) ?_)) | (refine k_store ?_; (first | refine o_rstorem (1 : Int) rfl rfl rfl rfl hz0 rfl rfl rfl rfl ?_ | refine o_store0 rfl rfl rfl rfl rfl rfl ?_)) | (refine k_alloc ?_; (refine o_does (d_alloc rfl rfl (by decide)) ?_)) | (refine k_build ?_; (refine o_buildr rfl rfl rfl rfl rfl rfl (by decide) ?_)) | (refine k_make ?_; (refine o_make (xs := (counts.map (fun _ => (0 : Int))).map fun x => [Dint x]) rfl rfl (by omega) (by omega) rfl rfl rfl (by decide) (by rw [← rep_map]; simp) ?_)))) | (refine k_ops ?_; (first | refine o_go (by first | exact .inl rfl | exact .inr ⟨_, _, _, rfl, rfl, rfl⟩) ?_ | refine o_nil ?_)) | (refine k_run ?_; (first | refine r_seq ?_ | refine r_region ?_ | refine r_skip ?_ | refine r_block ?_ | refine r_if rfl (fun _ => ?_) (fun _ => ?_) | refine r_exit rfl ?_)))
      all_goals try (exfalso; omega)
      obtain ⟨oc, hoc⟩ : ∃ oc, (List.replicate counts.length (0 : Int)).set k 1 = oc := ⟨_, rfl⟩
      have hx : rleaf counts.length k c = ⟨c, true, oc⟩ := by rw [← hoc]; rfl
      have hZ : (counts.map (fun _ => (0 : Int))).set k 1 = oc := by rw [← rep_map]; exact hoc
      rw [show (((k : Nat) : Int)).toNat = k from rfl, hZ]
      refine r_freeze 43 rfl ?_
      refine r_loop ?_
      obtain ⟨L, hL⟩ : ∃ L, isort rle (rlv counts.length A 0) = L := ⟨_, rfl⟩
      rw [hL] at hasc hlen ⊢
      refine r_less (r_inv (fun q : Int => ⟨181, [(0, .d (ints counts)), (1, I .i64 limit), (7, .ref (0, 30)), (8, .d (ritems L)), (9, I .i64 (k : Nat)), (10, I .i64 c), (11, .ptr (0, 11) 0), (12, I .i64 q), (31, .d (ints counts)), (32, I .i64 counts.length), (33, I .i64 (k : Nat))],
          [(30, .row 3 1 ((A.map one01 ++ (c :: R').map (fun _ => (0 : Int))).map fun x => [Dint x])), (11, .box [.d (Dint c), .d (Dbool true), .d (ints oc)])], H⟩)
        (fun q => 0 ≤ q ∧ q ≤ L.length ∧ ∀ (i : Nat) y, L[i]? = some y → q ≤ i → rle y ⟨c, true, oc⟩ = false) (fun q => q.toNat) ?_ (L.length : Int) ⟨by omega, by omega, fun i y h h' => by have := (List.getElem?_eq_some_iff.1 h).1; omega⟩) rfl rfl
      intro j ⟨g1, g2, g3⟩ ih2
      have hend : (∀ (i : Nat) y, L[i]? = some y → (i : Int) < j → rle y ⟨c, true, oc⟩ = true) → L.take j.toNat ++ [⟨c, true, oc⟩] ++ L.drop j.toNat = isort rle (rlv counts.length (A ++ [c]) 0) := by
        intro hb
        rw [rlv_snoc, if_pos hpos, Nat.zero_add, ← hkA, hx, isort_snoc, hL]
        conv => rhs; rw [← List.take_append_drop j.toNat L]
        rw [insR_mid]
        · simp
        · intro y hy
          obtain ⟨i, hi, rfl⟩ := List.getElem_of_mem hy
          rw [List.getElem_take]
          rw [List.length_take] at hi
          exact hb i _ (List.getElem?_eq_getElem (by omega)) (by omega)
        · intro y hy
          obtain ⟨i, hi, rfl⟩ := List.getElem_of_mem hy
          rw [List.getElem_drop]
          rw [List.length_drop] at hi
          exact g3 (j.toNat + i) _ (List.getElem?_eq_getElem (by omega)) (by omega)
      have hset : (A.map one01 ++ (c :: R').map (fun _ => (0 : Int))).set k 1 = (A ++ [c]).map one01 ++ R'.map (fun _ => (0 : Int)) := by
        refine (set_of_eq (A := A.map one01) (v := 0) rfl (by simpa using hkA)).trans ?_
        simp [one01, hpos]
      have hget : (A.map one01 ++ (c :: R').map (fun _ => (0 : Int)))[k]? = some 0 := get_of_eq (A := A.map one01) rfl (by simpa using hkA)
      by_cases hj : 0 < j
      · obtain ⟨y, hy⟩ : ∃ y, L[(j - 1).toNat]? = some y := ⟨_, List.getElem?_eq_getElem (by omega)⟩
        by_cases hw : c < y.weight
        · repeat' (first | (refine k_op1 ?_; (first | refine o_sv rfl (by decide) ?_ | (refine k_load ?_; (refine o_val (v_loade rfl rfl rfl) rfl rfl (by decide) ?_)) | (refine k_field ?_; (refine o_val (v_fielde rfl rfl) rfl rfl (by decide) ?_)) | (refine k_index ?_; (refine o_val (v_index rfl (by omega) (idxi hy) rfl) rfl rfl (by decide) ?_)) | (refine k_bin ?_; (refine o_val (v_sub (wi64 (by omega) (by omega))) rfl rfl (by decide) ?_)))) | (refine k_ops ?_; (first | refine o_go (by first | exact .inl rfl | exact .inr ⟨_, _, _, rfl, rfl, rfl⟩) ?_ | refine o_nil ?_ | refine o_no rfl rfl (by decide) ?_ | refine o_casep rfl rfl (fun _ => ?_) (fun _ => ?_))) | (refine k_run ?_; (first | refine r_seq ?_ | refine r_region ?_ | refine r_false rfl ?_ | refine r_skip ?_ | refine r_block ?_ | refine r_tr ?_ | refine r_inBlock ?_ | refine r_if rfl (fun _ => ?_) (fun _ => ?_) | refine r_exit rfl ?_)) | (refine k_tr ?_; (refine t_sv rfl (by first | exact rfl | exact ⟨_, rfl, rfl, rfl⟩) (by decide) ?_)))
          all_goals try (exfalso; omega)
          refine r_less (ih2 (j - 1) ⟨by omega, by omega, fun i z hz hi => ?_⟩ (by omega)) rfl rfl
          by_cases hij : j ≤ i
          · exact g3 i z hz hij
          · have : i = (j - 1).toNat := by omega
            subst this
            rw [hy] at hz; simp at hz; subst hz
            simp only [rle]; simp; omega
        · have he := hend fun i z hz hi => by
            refine rle_ord.trans _ y _ (asc_get rle_ord hasc (by omega) hz hy) ?_
            simp only [rle]; simp; omega
          repeat' (first | (refine k_op1 ?_; (first | refine o_sv rfl (by decide) ?_ | (refine k_load ?_; (refine o_val (v_loade rfl rfl rfl) rfl rfl (by decide) ?_)) | (refine k_field ?_; (refine o_val (v_fielde rfl rfl) rfl rfl (by decide) ?_)) | (refine k_index ?_; (first | refine o_val (v_index rfl (by omega) (idxi hy) rfl) rfl rfl (by decide) ?_ | refine o_val (v_rindex rfl (by omega) (by simp; omega) rfl) rfl rfl (by decide) ?_)) | (refine k_bin ?_; (first | refine o_val (v_add (wi64 (by omega) (by omega))) rfl rfl (by decide) ?_ | refine o_val (v_sub (wi64 (by omega) (by omega))) rfl rfl (by decide) ?_)) | (refine k_store ?_; (refine o_rstorem (1 : Int) rfl rfl rfl rfl hget rfl rfl rfl hset ?_)))) | (refine k_ops ?_; (first | refine o_go (by first | exact .inl rfl | exact .inr ⟨_, _, _, rfl, rfl, rfl⟩) ?_ | refine o_nil ?_ | refine o_no rfl rfl (by decide) ?_ | refine o_casep rfl rfl (fun _ => ?_) (fun _ => ?_))) | (refine k_run ?_; (first | refine r_seq ?_ | refine r_region ?_ | refine r_false rfl ?_ | refine r_skip ?_ | refine r_block ?_ | refine r_tr ?_ | refine r_inBlock ?_ | refine r_if rfl (fun _ => ?_) (fun _ => ?_) | refine r_exit rfl ?_)) | (refine k_tr ?_; (first | (refine kt_end ?_; refine t_end mix (by kernel_rfl) ?_) | refine t_sv rfl (by first | exact rfl | exact ⟨_, rfl, rfl, rfl⟩) (by decide) ?_ | (refine kt_load ?_; (refine t_val (v_loadp rfl rfl rfl rfl) (by first | exact rfl | exact ⟨_, rfl, rfl, rfl⟩) rfl rfl (by decide) ?_)) | (refine kt_slice ?_; (first | refine t_val (v_slicetm (g := RItem.cs) rfl (by omega) (by omega) (fun _ => rfl)) (by first | exact rfl | exact ⟨_, rfl, rfl, rfl⟩) rfl rfl (by decide) ?_ | refine t_val (v_slicefm (g := RItem.cs) rfl (by omega) (by omega) (fun _ => rfl)) (by first | exact rfl | exact ⟨_, rfl, rfl, rfl⟩) rfl rfl (by decide) ?_)) | (refine kt_blt ?_; (first | refine t_apps (q := L.take j.toNat ++ [⟨c, true, oc⟩]) (r := L.drop j.toNat) (g := RItem.cs) (by first | exact rfl | exact ⟨_, rfl, rfl, rfl⟩) rfl rfl rfl rfl rfl (fun _ => rfl) rfl rfl (by decide) (by rw [List.length_append, List.length_take, List.length_drop]; simp; omega) ?_ | refine t_app1 (g := RItem.cs) (by first | exact rfl | exact ⟨_, rfl, rfl, rfl⟩) rfl rfl ⟨c, true, oc⟩ rfl rfl rfl rfl rfl rfl rfl (by decide) (by rw [List.length_take]; omega) ?_ | refine t_appn (r := L.take j.toNat) (g := RItem.cs) (by first | exact rfl | exact ⟨_, rfl, rfl, rfl⟩) rfl rfl rfl (fun _ => rfl) rfl rfl (by decide) (by rw [List.length_take]; omega) ?_)) | (refine kt_lit ?_; (refine t_lit (by first | exact rfl | exact ⟨_, rfl, rfl, rfl⟩) rfl rfl rfl rfl rfl rfl rfl rfl (by decide) ?_)))))
          all_goals try (exfalso; omega)
          refine r_freeze 75 rfl ?_
          refine r_less (ih (k + 1, A ++ [c], R') ⟨by rw [← hAR]; simp, by simp [hkA]⟩ (by simp)) ?_ rfl
          simp only [← he]; rfl
      · have hj0 : j = 0 := by omega
        have he := hend fun i z hz hi => by omega
        repeat' (first | (refine k_op1 ?_; (first | refine o_sv rfl (by decide) ?_ | (refine k_index ?_; (refine o_val (v_rindex rfl (by omega) (by simp; omega) rfl) rfl rfl (by decide) ?_)) | (refine k_bin ?_; (first | refine o_val (v_add (wi64 (by omega) (by omega))) rfl rfl (by decide) ?_ | refine o_val (v_sub (wi64 (by omega) (by omega))) rfl rfl (by decide) ?_)) | (refine k_store ?_; (refine o_rstorem (1 : Int) rfl rfl rfl rfl hget rfl rfl rfl hset ?_)))) | (refine k_ops ?_; (first | refine o_go (by first | exact .inl rfl | exact .inr ⟨_, _, _, rfl, rfl, rfl⟩) ?_ | refine o_nil ?_ | refine o_no rfl rfl (by decide) ?_ | refine o_casep rfl rfl (fun _ => ?_) (fun _ => ?_))) | (refine k_run ?_; (first | refine r_seq ?_ | refine r_region ?_ | refine r_false rfl ?_ | refine r_tr ?_ | refine r_inBlock ?_ | refine r_exit rfl ?_)) | (refine k_tr ?_; (first | (refine kt_end ?_; refine t_end mix (by kernel_rfl) ?_) | refine t_sv rfl (by first | exact rfl | exact ⟨_, rfl, rfl, rfl⟩) (by decide) ?_ | (refine kt_load ?_; (refine t_val (v_loadp rfl rfl rfl rfl) (by first | exact rfl | exact ⟨_, rfl, rfl, rfl⟩) rfl rfl (by decide) ?_)) | (refine kt_slice ?_; (first | refine t_val (v_slicetm (g := RItem.cs) rfl (by omega) (by omega) (fun _ => rfl)) (by first | exact rfl | exact ⟨_, rfl, rfl, rfl⟩) rfl rfl (by decide) ?_ | refine t_val (v_slicefm (g := RItem.cs) rfl (by omega) (by omega) (fun _ => rfl)) (by first | exact rfl | exact ⟨_, rfl, rfl, rfl⟩) rfl rfl (by decide) ?_)) | (refine kt_blt ?_; (first | refine t_apps (q := L.take j.toNat ++ [⟨c, true, oc⟩]) (r := L.drop j.toNat) (g := RItem.cs) (by first | exact rfl | exact ⟨_, rfl, rfl, rfl⟩) rfl rfl rfl rfl rfl (fun _ => rfl) rfl rfl (by decide) (by rw [List.length_append, List.length_take, List.length_drop]; simp; omega) ?_ | refine t_app1 (g := RItem.cs) (by first | exact rfl | exact ⟨_, rfl, rfl, rfl⟩) rfl rfl ⟨c, true, oc⟩ rfl rfl rfl rfl rfl rfl rfl (by decide) (by rw [List.length_take]; omega) ?_ | refine t_appn (r := L.take j.toNat) (g := RItem.cs) (by first | exact rfl | exact ⟨_, rfl, rfl, rfl⟩) rfl rfl rfl (fun _ => rfl) rfl rfl (by decide) (by rw [List.length_take]; omega) ?_)) | (refine kt_lit ?_; (refine t_lit (by first | exact rfl | exact ⟨_, rfl, rfl, rfl⟩) rfl rfl rfl rfl rfl rfl rfl rfl (by decide) ?_)))))
        all_goals try (exfalso; omega)
        refine r_freeze 75 rfl ?_
        refine r_less (ih (k + 1, A ++ [c], R') ⟨by rw [← hAR]; simp, by simp [hkA]⟩ (by simp)) ?_ rfl
        simp only [← he]; rfl
end Go.Proofs.Ytlgdilkmcfpjjaa
