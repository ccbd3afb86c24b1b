/- A law holds for every input; no condition. -/
import Derived.Test.YtlgdilkmcfpjjaaWk
set_option linter.all false
set_option linter.unusedVariables false
set_option linter.unusedSimpArgs false
namespace Go.Proofs.Ytlgdilkmcfpjjaa
open Go.Ab Go.Srt
set_option maxHeartbeats 20000000
set_option linter.unusedVariables false
set_option linter.unusedSimpArgs false
attribute [local irreducible] Run Ops Op1 Does Val Tr PureF Eff1 NF Rel EffV

/-- no lengths that a code has cost less: the absent symbols' lengths don't matter -/
theorem opt_plain2 {counts ln other : List Int} {limit : Int} (hck : checkH counts limit = 0) (h2 : 2 ≤ (zleaves counts).length) (hl : huffL counts limit = (ln, 0)) (hlen : counts.length ≤ other.length) (ho : ∀ x ∈ zleaves counts, 1 ≤ other.getD x.1.1.symbol.toNat 0 ∧ other.getD x.1.1.symbol.toNat 0 ≤ limit) (hk : msum limit (pres counts other) ≤ ((2 ^ limit.toNat : Nat) : Int)) : cst counts ln ≤ cst counts other := by
  obtain ⟨hl1, hl2, hcl, hc, hn⟩ := checkH_ok hck
  rw [(huff_cost hck h2 hl).2, cst_leaves _ _ hlen]
  rw [msum_leaves _ _ _ hlen] at hk
  have := opt_le (zleaves counts) (isort_asc zle_ord _) (fun x hx => Int.le_of_lt (zleaves_cnt counts x hx).2) limit.toNat (by omega) (fun x => (other.getD x.1.1.symbol.toNat 0).toNat) (fun x hx => by have := ho x hx; show Int.toNat _ ≤ _; omega) (by omega) (by
    refine Int.le_trans (Int.le_of_eq (sumL_congr fun x hx => ?_)) hk
    have := ho x hx
    rw [show limit.toNat - (other.getD x.1.1.symbol.toNat 0).toNat = (limit - other.getD x.1.1.symbol.toNat 0).toNat by omega])
  refine Int.le_trans this (Int.le_of_eq (sumL_congr fun x hx => ?_))
  have := ho x hx
  rw [Int.toNat_of_nonneg (by omega)]
theorem msum_up (m d : Int) (hd : 0 ≤ d) : ∀ l : List Int, (∀ x ∈ l, x ≤ m) → msum (m + d) l = ((2 ^ d.toNat : Nat) : Int) * msum m l
  | [], _ => by simp [msum]
  | x :: l, h => by
    have hx := h x (by simp)
    rw [msum, msum, msum_up m d hd l fun y hy => h y (by simp [hy]), Int.mul_add, show (m + d - x).toNat = d.toNat + (m - x).toNat by omega, Nat.pow_add, Int.natCast_mul]
theorem pres_mem : ∀ (c o : List Int) (v : Int), v ∈ pres c o → ∃ (i : Nat) (w : Int), c[i]? = some w ∧ 0 < w ∧ o[i]? = some v
  | [], o, v, h => by rw [pres_nil] at h; simp at h
  | w :: c, [], v, h => by simp [pres] at h
  | w :: c, y :: o, v, h => by
    rw [pres] at h
    by_cases hw : 0 < w
    · rw [if_pos hw, List.mem_cons] at h
      rcases h with rfl | h
      · exact ⟨0, w, by simp, hw, by simp⟩
      · obtain ⟨i, u, h1, h2, h3⟩ := pres_mem c o v h
        exact ⟨i + 1, u, by simpa using h1, h2, by simpa using h3⟩
    · rw [if_neg hw] at h
      obtain ⟨i, u, h1, h2, h3⟩ := pres_mem c o v h
      exact ⟨i + 1, u, by simpa using h1, h2, by simpa using h3⟩
theorem limits_plain {counts a b : List Int} {limit more : Int} (hm : 0 ≤ more) (hck : checkH counts limit = 0) (hck2 : checkH counts (limit + more) = 0) (ha : huffL counts limit = (a, 0)) (hb : huffL counts (limit + more) = (b, 0)) :
    cst counts b ≤ cst counts a ∧ ((∀ v ∈ b, v ≤ limit) → cst counts a = cst counts b) := by
  obtain ⟨hl1, hl2, _, _, _⟩ := checkH_ok hck
  obtain ⟨_, hl4, _, _, _⟩ := checkH_ok hck2
  by_cases h2 : (zleaves counts).length < 2
  · rw [huff_few hck h2] at ha
    rw [huff_few hck2 h2] at hb
    have ha' := congrArg Prod.fst ha
    have hb' := congrArg Prod.fst hb
    simp only at ha' hb'
    rw [← ha', ← hb']
    exact ⟨Int.le_refl _, fun _ => rfl⟩
  · have h2 : 2 ≤ (zleaves counts).length := by omega
    obtain ⟨a1, a2, _, a4⟩ := complete_plain hck ha
    obtain ⟨b1, b2, _, b4⟩ := complete_plain hck2 hb
    have a4 := a4 h2
    have b4 := b4 h2
    have hge : ∀ (o : List Int) (lim : Int), o.length = counts.length → (∀ (i : Nat) c, counts[i]? = some c → ∃ v, o[i]? = some v ∧ (0 < c → 1 ≤ v) ∧ (c ≤ 0 → v = 0) ∧ v ≤ lim) → ∀ x ∈ zleaves counts, 1 ≤ o.getD x.1.1.symbol.toNat 0 ∧ o.getD x.1.1.symbol.toNat 0 ≤ lim := fun o lim h1 h3 x hx => by
      obtain ⟨c1, c2⟩ := zleaves_cnt counts x hx
      obtain ⟨v, e1, e2, _, e4⟩ := h3 _ _ c1
      rw [getD_some e1]; exact ⟨e2 c2, e4⟩
    have hpm : ∀ (o : List Int) (lim : Int), (∀ (i : Nat) c, counts[i]? = some c → ∃ v, o[i]? = some v ∧ (0 < c → 1 ≤ v) ∧ (c ≤ 0 → v = 0) ∧ v ≤ lim) → ∀ v ∈ pres counts o, v ≤ lim := fun o lim h3 v hv => by
      obtain ⟨i, w, c1, c2, c3⟩ := pres_mem counts o v hv
      obtain ⟨v', e1, _, _, e4⟩ := h3 i w c1
      rw [c3] at e1; cases e1; exact e4
    have hpow : ((2 ^ (limit + more).toNat : Nat) : Int) = ((2 ^ more.toNat : Nat) : Int) * ((2 ^ limit.toNat : Nat) : Int) := by
      rw [show (limit + more).toNat = more.toNat + limit.toNat by omega, Nat.pow_add, Int.natCast_mul]
    have h1 : cst counts b ≤ cst counts a := by
      refine opt_plain2 hck2 h2 hb (by omega) (fun x hx => ?_) ?_
      · have := hge a limit a1 a2 x hx; omega
      · rw [msum_up limit more hm _ (hpm a limit a2), a4, hpow]; exact Int.le_refl _
    refine ⟨h1, fun hlong => ?_⟩
    have h3 : cst counts a ≤ cst counts b := by
      have b2' : ∀ (i : Nat) c, counts[i]? = some c → ∃ v, b[i]? = some v ∧ (0 < c → 1 ≤ v) ∧ (c ≤ 0 → v = 0) ∧ v ≤ limit := fun i c h => by
        obtain ⟨v, e1, e2, e3, _⟩ := b2 i c h
        exact ⟨v, e1, e2, e3, hlong v (List.mem_of_getElem? e1)⟩
      refine opt_plain2 hck h2 ha (by omega) (hge b limit b1 b2') ?_
      rw [msum_up limit more hm _ (hpm b limit b2'), hpow] at b4
      have hp0 : (0 : Int) < ((2 ^ more.toNat : Nat) : Int) := by rw [pow_int]; exact Int.pow_pos (by omega)
      exact Int.le_of_mul_le_mul_left (Int.le_of_eq b4) hp0
    omega
theorem check_up {counts : List Int} {limit more : Int} (hck : checkH counts limit = 0) (h0 : 0 ≤ more) (h1 : limit + more ≤ 15) : checkH counts (limit + more) = 0 := by
  obtain ⟨hl1, hl2, hcl, hc, hn⟩ := checkH_ok hck
  rw [checkH, if_neg (by omega), if_neg (by omega)] at hck ⊢
  have hp : (2 : Nat) ^ limit.toNat ≤ 2 ^ (limit + more).toNat := Nat.pow_le_pow_right (by omega) (by omega)
  cases h : chk counts 0 with
  | none => rw [h] at hck; exact absurd hck (by simp)
  | some p =>
    rw [h] at hck
    simp only at hck ⊢
    by_cases hp2 : 2 ^ limit.toNat < p
    · rw [if_pos hp2] at hck; exact absurd hck (by decide)
    · rw [if_neg (by omega)]
theorem limits_law (counts : List Int) (limit more : Int) (hl : counts.length ≤ 9223372036854775807) : PureF Try.prog 7 [.d (ints counts), I .i64 limit, I .i64 more] (B true) := by
  refine pure_of fun H => ?_
  refine spec_of Try.func7 (by kernel_rfl) rfl (by simp) ?_
  dsimp only [Try.f7]
  have h1 := rcheck_s counts limit hl
  have h2 := lengths_s counts limit hl
  have h3 := lengths_s counts (limit + more) hl
  by_cases h30 : 30 < counts.length ∨ more < 0 ∨ 15 < more
  · repeat' (first | (refine k_op1 ?_; (first | refine o_sv rfl (by decide) ?_ | (refine k_blt ?_; (refine o_val (v_lenm rfl) rfl rfl (by decide) ?_)))) | (refine k_ops ?_; (first | refine o_go (by first | exact .inl rfl | exact .inr ⟨_, _, _, rfl, rfl, rfl⟩) ?_ | refine o_nil ?_ | refine o_no rfl rfl (by decide) ?_ | refine o_casep rfl rfl (fun _ => ?_) (fun _ => ?_))) | (refine k_run ?_; (first | refine r_seq ?_ | refine r_region ?_ | refine r_true rfl ?_)))
    all_goals try (exfalso; omega)
    all_goals exact r_ret Try.func7 _ (res_one rfl rfl) ⟨rfl, rfl⟩
  by_cases hck : checkH counts limit ≠ 0
  · repeat' (first | (refine k_op1 ?_; (first | refine o_sv rfl (by decide) ?_ | (refine k_bin ?_; (refine o_val (v_add (wi64 (by omega) (by omega))) rfl rfl (by decide) ?_)) | (refine k_blt ?_; (refine o_val (v_lenm rfl) rfl rfl (by decide) ?_)) | (refine k_call ?_; (refine o_fn h1 rfl (by decide) ?_)))) | (refine k_ops ?_; (first | refine o_go (by first | exact .inl rfl | exact .inr ⟨_, _, _, rfl, rfl, rfl⟩) ?_ | refine o_nil ?_ | refine o_no rfl rfl (by decide) ?_ | refine o_casep rfl rfl (fun _ => ?_) (fun _ => ?_) | refine o_casen rfl rfl (fun _ => ?_) (fun _ => ?_))) | (refine k_run ?_; (first | refine r_seq ?_ | refine r_region ?_ | refine r_true rfl ?_ | refine r_skip ?_ | refine r_if rfl (fun _ => ?_) (fun _ => ?_))))
    all_goals try (exfalso; omega)
    all_goals exact r_ret Try.func7 _ (res_one rfl rfl) ⟨rfl, rfl⟩
  have hck0 : checkH counts limit = 0 := by omega
  obtain ⟨hl1, hl2, hcl, hc, hn⟩ := checkH_ok hck0
  rw [hck0] at h1
  by_cases hup : 15 < limit + more
  · repeat' (first | (refine k_op1 ?_; (first | refine o_sv rfl (by decide) ?_ | (refine k_bin ?_; (refine o_val (v_add (wi64 (by omega) (by omega))) rfl rfl (by decide) ?_)) | (refine k_blt ?_; (refine o_val (v_lenm rfl) rfl rfl (by decide) ?_)) | (refine k_call ?_; (refine o_fn h1 rfl (by decide) ?_)))) | (refine k_ops ?_; (first | refine o_go (by first | exact .inl rfl | exact .inr ⟨_, _, _, rfl, rfl, rfl⟩) ?_ | refine o_nil ?_ | refine o_no rfl rfl (by decide) ?_ | refine o_casep rfl rfl (fun _ => ?_) (fun _ => ?_))) | (refine k_run ?_; (first | refine r_seq ?_ | refine r_region ?_ | refine r_true rfl ?_ | refine r_skip ?_ | refine r_if rfl (fun _ => ?_) (fun _ => ?_))))
    all_goals try (exfalso; omega)
    all_goals exact r_ret Try.func7 _ (res_one rfl rfl) ⟨rfl, rfl⟩
  have hck2 := check_up hck0 (by omega : 0 ≤ more) (by omega)
  obtain ⟨a, ha⟩ := huff_ok hck0
  obtain ⟨b, hb⟩ := huff_ok hck2
  obtain ⟨hal, ha0⟩ := huff_nonneg hck0 ha
  obtain ⟨hbl, hb0⟩ := huff_nonneg hck2 hb
  have hba := huff_bound hck0 ha
  have hbb := huff_bound hck2 hb
  obtain ⟨hp1, hp2⟩ := limits_plain (by omega) hck0 hck2 ha hb
  have hbr := (complete_plain hck2 hb).2.1
  rw [ha] at h2
  rw [hb] at h3
  dsimp only at h2 h3
  repeat' (first | (refine k_op1 ?_; (first | refine o_sv rfl (by decide) ?_ | (refine k_bin ?_; (refine o_val (v_add (wi64 (by omega) (by omega))) rfl rfl (by decide) ?_)) | (refine k_blt ?_; (refine o_val (v_lenm rfl) rfl rfl (by decide) ?_)) | (refine k_call ?_; (first | refine o_fn h1 rfl (by decide) ?_ | refine o_fn h2 rfl (by decide) ?_ | refine o_fn h3 rfl (by decide) ?_)))) | (refine k_ops ?_; (first | refine o_go (by first | exact .inl rfl | exact .inr ⟨_, _, _, rfl, rfl, rfl⟩) ?_ | refine o_nil ?_ | refine o_no rfl rfl (by decide) ?_ | refine o_casep rfl rfl (fun _ => ?_) (fun _ => ?_) | refine o_casen rfl rfl (fun _ => ?_) (fun _ => ?_))) | (refine k_run ?_; (first | refine r_seq ?_ | refine r_region ?_ | refine r_true rfl ?_ | refine r_skip ?_ | refine r_block ?_ | refine r_if rfl (fun _ => ?_) (fun _ => ?_) | refine r_ifn rfl (fun _ => ?_) (fun _ => ?_))))
  all_goals try (exfalso; omega)
  refine r_loop ?_
  refine r_less (r_inv (fun q : Nat × Int × Int × Int => ⟨119, [(0, .d (ints counts)), (1, I .i64 limit), (7, .d (ints a)), (9, .d (ints b)), (11, I .i64 q.2.1), (12, I .i64 q.2.2.1), (13, I .i64 q.2.2.2), (73, .d (ints counts)), (74, I .i64 counts.length), (75, I .i64 (q.1 : Nat))], [], H⟩)
    (fun q => q.1 ≤ counts.length ∧ 0 ≤ q.2.1 ∧ 0 ≤ q.2.2.1 ∧ 0 ≤ q.2.2.2 ∧ (∀ (j : Nat) v, j < q.1 → b[j]? = some v → v ≤ q.2.2.2) ∧ q.2.1 + cst (counts.drop q.1) (a.drop q.1) = cst counts a ∧ q.2.2.1 + cst (counts.drop q.1) (b.drop q.1) = cst counts b)
    (fun q => counts.length - q.1) ?_ (0, 0, 0, 0) ⟨by simp, Int.le_refl _, Int.le_refl _, Int.le_refl _, fun j v h => by simp at h, by simp, by simp⟩) rfl rfl
  intro ⟨i, x, y, g⟩ ⟨hi, hx0, hy0, hg0, hg1, e1, e2⟩ ih
  simp only at hi hx0 hy0 hg0 hg1 e1 e2 ih ⊢
  by_cases hlt : i < counts.length
  · obtain ⟨c, hx⟩ : ∃ x, counts[i]? = some x := ⟨_, List.getElem?_eq_getElem hlt⟩
    obtain ⟨u, hu⟩ : ∃ x, a[i]? = some x := ⟨_, List.getElem?_eq_getElem (by omega)⟩
    obtain ⟨v, hv⟩ : ∃ x, b[i]? = some x := ⟨_, List.getElem?_eq_getElem (by omega)⟩
    have hcr := hc c (List.mem_of_getElem? hx)
    have hu0 := ha0 u (List.mem_of_getElem? hu)
    have hv0 := hb0 v (List.mem_of_getElem? hv)
    have hra := cst_nonneg (counts.drop (i + 1)) (a.drop (i + 1)) fun v hv => ha0 v (List.mem_of_mem_drop hv)
    have hrb := cst_nonneg (counts.drop (i + 1)) (b.drop (i + 1)) fun v hv => hb0 v (List.mem_of_mem_drop hv)
    have hcu := Int.mul_nonneg hcr.1 hu0
    have hcv := Int.mul_nonneg hcr.1 hv0
    rw [drop_cons hx, drop_cons hu, cst] at e1
    rw [drop_cons hx, drop_cons hv, cst] at e2
    have z1 : (if 0 < c then c * u else 0) = c * u := by
      by_cases h : 0 < c
      · rw [if_pos h]
      · obtain rfl : c = 0 := by omega
        simp
    have z2 : (if 0 < c then c * v else 0) = c * v := by
      by_cases h : 0 < c
      · rw [if_pos h]
      · obtain rfl : c = 0 := by omega
        simp
    rw [z1] at e1
    rw [z2] at e2
    repeat' (first | (refine k_op1 ?_; (first | refine o_sv rfl (by decide) ?_ | (refine k_load ?_; (refine o_val (v_loade rfl rfl rfl) rfl rfl (by decide) ?_)) | (refine k_index ?_; (first | refine o_val (v_index rfl (by omega) (idx hx) rfl) rfl rfl (by decide) ?_ | refine o_val (v_index rfl (by omega) (idx hu) rfl) rfl rfl (by decide) ?_ | refine o_val (v_index rfl (by omega) (idx hv) rfl) rfl rfl (by decide) ?_)) | (refine k_bin ?_; (first | refine o_val (v_mul (wi64 (by omega) (by omega))) rfl rfl (by decide) ?_ | refine o_val (v_add (wi64 (by omega) (by omega))) rfl rfl (by decide) ?_)) | (refine k_blt ?_; (refine o_val v_max rfl rfl (by decide) ?_)))) | (refine k_ops ?_; (first | refine o_go (by first | exact .inl rfl | exact .inr ⟨_, _, _, rfl, rfl, rfl⟩) ?_ | refine o_nil ?_ | refine o_no rfl rfl (by decide) ?_ | refine o_no2 rfl rfl (by decide) ?_ | refine o_casep rfl rfl (fun _ => ?_) (fun _ => ?_))) | (refine k_run ?_; (first | refine r_seq ?_ | refine r_region ?_ | refine r_skip ?_ | refine r_block ?_ | refine r_inBlock ?_ | refine r_if rfl (fun _ => ?_) (fun _ => ?_) | refine r_exit rfl ?_)))
    all_goals try (exfalso; omega)
    refine r_less (ih (i + 1, x + c * u, y + c * v, max g v) ⟨by simp only; omega, by simp only; omega, by simp only; omega, by simp only; omega, fun j w hj hw => ?_, by simp only; omega, by simp only; omega⟩ (by simp only; omega)) rfl rfl
    simp only
    by_cases hji : j < i
    · have := hg1 j w hji hw; omega
    · obtain rfl : j = i := by simp only at hj; omega
      rw [hv] at hw; cases hw; omega
  · obtain rfl : i = counts.length := by omega
    rw [List.drop_length, cst_nil] at e1 e2
    have hfin : limit < g ∨ x = y := by
      by_cases h : limit < g
      · exact .inl h
      · right
        have := hp2 fun v hv => by
          obtain ⟨j, hj, he⟩ := List.getElem_of_mem hv
          have := hg1 j v (by omega) (by rw [List.getElem?_eq_getElem hj, he])
          omega
        omega
    repeat' (first | (refine k_op1 ?_; (first | refine o_sv rfl (by decide) ?_ | (refine k_call ?_; (refine o_fn awake_s rfl (by decide) ?_)))) | (refine k_ops ?_; (first | refine o_go (by first | exact .inl rfl | exact .inr ⟨_, _, _, rfl, rfl, rfl⟩) ?_ | refine o_nil ?_ | refine o_no rfl rfl (by decide) ?_ | refine o_no2 rfl rfl (by decide) ?_ | refine o_casep rfl rfl (fun _ => ?_) (fun _ => ?_))) | (refine k_run ?_; (first | refine r_seq ?_ | refine r_region ?_ | refine r_skip ?_ | refine r_block ?_ | refine r_if rfl (fun _ => ?_) (fun _ => ?_) | refine r_exit rfl ?_)))
    all_goals try (exfalso; omega)
    all_goals exact r_ret Try.func7 _ (res_one rfl rfl) ⟨rfl, rfl⟩
end Go.Proofs.Ytlgdilkmcfpjjaa
