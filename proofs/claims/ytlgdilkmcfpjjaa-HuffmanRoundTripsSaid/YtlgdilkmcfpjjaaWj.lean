/- The least sum of counts times lengths. -/
import Derived.Test.YtlgdilkmcfpjjaaWf
set_option linter.all false
set_option linter.unusedVariables false
set_option linter.unusedSimpArgs false
namespace Go.Proofs.Ytlgdilkmcfpjjaa
open Go.Ab Go.Srt
set_option linter.unusedVariables false
set_option linter.unusedSimpArgs false
/-- the weight of some items -/
def sW : List Z → Int
  | [] => 0
  | x :: r => x.1.1.weight + sW r
theorem sW_app : ∀ a b : List Z, sW (a ++ b) = sW a + sW b
  | [], b => by simp [sW]
  | x :: a, b => by rw [List.cons_append, sW, sW, sW_app a b]; omega
theorem sW_perm {a b : List Z} (h : a.Perm b) : sW a = sW b := by
  induction h with
  | nil => rfl
  | cons x _ ih => rw [sW, sW, ih]
  | swap x y l => simp only [sW]; omega
  | trans _ _ h1 h2 => rw [h1, h2]
theorem sW_nonneg : ∀ a : List Z, (∀ x ∈ a, 0 ≤ x.1.1.weight) → 0 ≤ sW a
  | [], _ => by simp [sW]
  | x :: a, h => by have := sW_nonneg a fun y hy => h y (by simp [hy]); have := h x (by simp); rw [sW]; omega
/-- the first ones of an ascending list weigh least -/
theorem least_sub : ∀ {S M : List Z}, S.Sublist M → Asc zle M → (∀ x ∈ M, 0 ≤ x.1.1.weight) → ∀ t, t ≤ S.length → sW (M.take t) ≤ sW S := by
  intro S M h
  induction h with
  | slnil => intro _ _ t ht; simp at ht; subst ht; simp [sW]
  | @cons S M x h ih =>
    intro ha hw t ht
    have ha' := List.pairwise_cons.1 ha
    have hw' : ∀ y ∈ M, 0 ≤ y.1.1.weight := fun y hy => hw y (by simp [hy])
    cases t with
    | zero =>
      have := sW_nonneg S fun y hy => hw' y (h.subset hy)
      simpa [sW] using this
    | succ t =>
      cases S with
      | nil => simp at ht
      | cons y S' =>
        have hy := ha'.1 y (h.subset (by simp))
        simp only [zle, decide_eq_true_eq] at hy
        have hS' : S'.Sublist M := (List.sublist_cons_self y S').trans h
        have h2 := ih ha'.2 hw' (t + 1) ht
        -- the first t of M, and y, are at most S
        have hlt : t + 1 ≤ M.length := Nat.le_trans ht h.length_le
        obtain ⟨z, hz⟩ : ∃ z, M[t]? = some z := ⟨_, List.getElem?_eq_getElem (by omega)⟩
        have hzx := ha'.1 z (List.mem_of_getElem? hz)
        simp only [zle, decide_eq_true_eq] at hzx
        rw [List.take_add_one, hz, sW_app] at h2
        rw [List.take_succ_cons]
        simp only [Option.toList_some, sW] at h2 ⊢
        omega
  | @cons_cons S M x h ih =>
    intro ha hw t ht
    have ha' := List.pairwise_cons.1 ha
    cases t with
    | zero => have := sW_nonneg (x :: S) fun y hy => hw y ((h.cons_cons x).subset hy); simpa [sW] using this
    | succ t =>
      rw [List.take_succ_cons, sW, sW]
      have := ih ha'.2 (fun y hy => hw y (by simp [hy])) t (by simpa using ht)
      omega
theorem least_two {L P M S1 S2 : List Z} (hM : M.Perm (L ++ P)) (ha : Asc zle M) (hw : ∀ x ∈ M, 0 ≤ x.1.1.weight) (h1 : S1.Sublist L) (h2 : S2.Sublist P) (t : Nat) (ht : t ≤ S1.length + S2.length) : sW (M.take t) ≤ sW S1 + sW S2 := by
  have hs : (S1 ++ S2).Sublist (L ++ P) := h1.append h2
  obtain ⟨S, hp, hsub⟩ := List.exists_perm_sublist hs hM.symm
  rw [← sW_app, ← sW_perm hp]
  exact least_sub hsub ha hw t (by rw [hp.length_eq, List.length_append]; exact ht)
theorem sW_pk : ∀ (n : Nat) (l : List Z) (i p : Nat), l.length ≤ n → 2 * p ≤ l.length → sW ((zpk l i).take p) = sW (l.take (2 * p))
  | _, l, i, 0, _, _ => by simp [sW]
  | _, [], i, p + 1, _, h => by simp at h
  | _, [x], i, p + 1, _, h => by simp at h; omega
  | 0, x :: y :: r, i, p + 1, h, _ => by simp at h
  | n + 1, x :: y :: r, i, p + 1, h, hp => by
    simp only [List.length_cons] at h hp
    rw [zpk, List.take_succ_cons, sW, sW_pk n r (i + 2) p (by omega) (by omega), show 2 * (p + 1) = (2 * p) + 1 + 1 by omega, List.take_succ_cons, List.take_succ_cons, sW, sW]
    simp only; omega
theorem zlvl_w (L : List Z) (hL : ∀ x ∈ L, 0 ≤ x.1.1.weight) : ∀ k, ∀ x ∈ zlvl L k, 0 ≤ x.1.1.weight
  | 0, x, hx => hL x hx
  | k + 1, x, hx => by
    rw [zlvl] at hx
    have hx := (mrg_perm (le := zle) _ _).mem_iff.1 hx
    rw [List.mem_append] at hx
    rcases hx with hx | hx
    · exact hL x hx
    · obtain ⟨u, hu, v, hv, he, _⟩ := zpk_mem _ _ 0 x (Nat.le_refl _) hx
      have := zlvl_w L hL k u hu
      have := zlvl_w L hL k v hv
      omega
/-- sums over the numbers below m -/
def sumN (m : Nat) (f : Nat → Nat) : Nat := match m with
  | 0 => 0
  | m + 1 => sumN m f + f m
def sumZ (m : Nat) (f : Nat → Int) : Int := match m with
  | 0 => 0
  | m + 1 => sumZ m f + f m
/-- NO CHOICE OF LEAVES OF AS GREAT A VALUE WEIGHS LESS -/
theorem coins (L : List Z) (ha : Asc zle L) (hw : ∀ x ∈ L, 0 ≤ x.1.1.weight) (p : Nat → Z → Bool) : ∀ (k t : Nat), t * 2 ^ k ≤ sumN (k + 1) (fun j => (L.filter (p j)).length * 2 ^ j) →
    t ≤ (zlvl L k).length ∧ sW ((zlvl L k).take t) ≤ sumZ (k + 1) (fun j => sW (L.filter (p j)))
  | 0, t, h => by
    simp only [sumN, Nat.pow_zero, Nat.mul_one, Nat.zero_add] at h
    simp only [sumZ, Int.zero_add]
    have hs : (L.filter (p 0)).Sublist L := List.filter_sublist
    exact ⟨Nat.le_trans h hs.length_le, least_sub hs ha hw t h⟩
  | k + 1, t, h => by
    have ih := coins L ha hw p k
    rw [sumN] at h
    rw [sumZ]
    generalize sumN (k + 1) (fun j => (L.filter (p j)).length * 2 ^ j) = V at h ih
    generalize hX : sumZ (k + 1) (fun j => sW (L.filter (p j))) = X at ih ⊢
    have hs : (L.filter (p (k + 1))).Sublist L := List.filter_sublist
    obtain ⟨s, hsl⟩ : ∃ s, (L.filter (p (k + 1))).length = s := ⟨_, rfl⟩
    rw [hsl] at h
    have hsL : s ≤ L.length := by rw [← hsl]; exact hs.length_le
    have hasc := zlvl_asc L ha (k + 1)
    have hww := zlvl_w L hw (k + 1)
    have hlen := zlvl_len L k
    by_cases hst : t ≤ s
    · refine ⟨by omega, ?_⟩
      have := least_two (L := L) (P := zpk (zlvl L k) 0) (M := zlvl L (k + 1)) (S1 := L.filter (p (k + 1))) (S2 := []) (mrg_perm _ _) hasc hww hs (List.nil_sublist _) t (by simp; omega)
      have h0 := (ih 0 (by omega)).2
      simp [sW] at h0 this
      omega
    · obtain ⟨q, rfl⟩ : ∃ q, t = s + q := ⟨t - s, by omega⟩
      have hV : (2 * q) * 2 ^ k ≤ V := by
        have e : (s + q) * 2 ^ (k + 1) = (2 * q) * 2 ^ k + s * 2 ^ (k + 1) := by rw [Nat.add_mul, Nat.pow_succ, Nat.mul_comm 2 q, Nat.mul_assoc q 2, Nat.mul_comm 2 (2 ^ k), Nat.add_comm]
        omega
      obtain ⟨h1, h2⟩ := ih (2 * q) hV
      have hpl := zpk_len _ (zlvl L k) 0 (Nat.le_refl _)
      have hq : ((zpk (zlvl L k) 0).take q).length = q := by rw [List.length_take]; omega
      refine ⟨by omega, ?_⟩
      have := least_two (L := L) (P := zpk (zlvl L k) 0) (M := zlvl L (k + 1)) (S1 := L.filter (p (k + 1))) (S2 := (zpk (zlvl L k) 0).take q) (mrg_perm _ _) hasc hww hs (List.take_sublist _ _) (s + q) (by omega)
      rw [sW_pk _ _ 0 q (Nat.le_refl _) h1] at this
      omega
end Go.Proofs.Ytlgdilkmcfpjjaa
namespace Go.Proofs.Ytlgdilkmcfpjjaa
open Go.Ab Go.Srt
set_option linter.unusedVariables false
set_option linter.unusedSimpArgs false
/-- sums over items -/
def sumL (f : Z → Int) : List Z → Int
  | [] => 0
  | x :: r => f x + sumL f r
theorem sumL_perm (f : Z → Int) {a b : List Z} (h : a.Perm b) : sumL f a = sumL f b := by
  induction h with
  | nil => rfl
  | cons x _ ih => rw [sumL, sumL, ih]
  | swap x y l => simp only [sumL]; omega
  | trans _ _ h1 h2 => rw [h1, h2]
theorem sumL_congr {f g : Z → Int} : ∀ {L : List Z}, (∀ x ∈ L, f x = g x) → sumL f L = sumL g L
  | [], _ => rfl
  | x :: L, h => by rw [sumL, sumL, h x (by simp), sumL_congr fun y hy => h y (by simp [hy])]
theorem sumL_add (f g : Z → Int) : ∀ L : List Z, sumL (fun x => f x + g x) L = sumL f L + sumL g L
  | [] => rfl
  | x :: L => by simp only [sumL]; rw [sumL_add f g L]; omega
theorem sumL_zero : ∀ L : List Z, sumL (fun _ => 0) L = 0
  | [] => rfl
  | x :: L => by rw [sumL, sumL_zero L]; rfl
theorem sumL_const (c : Int) : ∀ L : List Z, sumL (fun _ => c) L = L.length * c
  | [] => by simp [sumL]
  | x :: L => by rw [sumL, sumL_const c L, List.length_cons]; rw [Int.natCast_add, Int.add_mul]; simp; omega
theorem sW_sumL : ∀ L : List Z, sW L = sumL (fun x => x.1.1.weight) L
  | [] => rfl
  | x :: L => by rw [sW, sumL, sW_sumL L]
theorem sumZ_add (f g : Nat → Int) : ∀ m, sumZ m (fun j => f j + g j) = sumZ m f + sumZ m g
  | 0 => rfl
  | m + 1 => by simp only [sumZ]; rw [sumZ_add f g m]; omega
theorem sumZ_zero : ∀ m, sumZ m (fun _ => 0) = 0
  | 0 => rfl
  | m + 1 => by rw [sumZ, sumZ_zero m]; rfl
theorem sumN_add (f g : Nat → Nat) : ∀ m, sumN m (fun j => f j + g j) = sumN m f + sumN m g
  | 0 => rfl
  | m + 1 => by simp only [sumN]; rw [sumN_add f g m]; omega
theorem sumN_zero : ∀ m, sumN m (fun _ => 0) = 0
  | 0 => rfl
  | m + 1 => by rw [sumN, sumN_zero m]
theorem sumZ_le (c : Nat) (w : Int) : ∀ m, sumZ m (fun j => if c ≤ j then w else 0) = w * ((m - c : Nat) : Int)
  | 0 => by simp [sumZ]
  | m + 1 => by
    rw [sumZ, sumZ_le c w m]
    by_cases h : c ≤ m
    · rw [if_pos h, show m + 1 - c = (m - c) + 1 by omega, Int.natCast_add, Int.mul_add]; simp
    · rw [if_neg h, show m + 1 - c = m - c by omega]; omega
theorem sumN_le (c : Nat) : ∀ m, c ≤ m → sumN m (fun j => if c ≤ j then 2 ^ j else 0) + 2 ^ c = 2 ^ m
  | 0, h => by have : c = 0 := by omega
               subst this; rfl
  | m + 1, h => by
    rw [sumN]
    by_cases hc : c ≤ m
    · rw [if_pos hc]
      have := sumN_le c m hc
      rw [Nat.pow_succ]; omega
    · have : c = m + 1 := by omega
      subst this
      have h0 : sumN m (fun j => if m + 1 ≤ j then 2 ^ j else 0) = 0 := by
        have : ∀ q, q ≤ m → sumN q (fun j => if m + 1 ≤ j then 2 ^ j else 0) = 0 := by
          intro q
          induction q with
          | zero => intro _; rfl
          | succ q ih => intro hq; rw [sumN, ih (by omega), if_neg (by omega)]
        exact this m (Nat.le_refl _)
      rw [h0, if_neg (by omega)]; omega
/-- weights by levels, and by items -/
theorem swap_w (c : Z → Nat) (m : Nat) : ∀ L : List Z, sumZ m (fun j => sW (L.filter fun x => decide (c x ≤ j))) = sumL (fun x => x.1.1.weight * ((m - c x : Nat) : Int)) L
  | [] => by simp only [List.filter_nil, sW, sumL]; exact sumZ_zero m
  | x :: L => by
    rw [sumL, ← swap_w c m L, ← sumZ_le (c x) x.1.1.weight m, ← sumZ_add]
    congr 1
    funext j
    by_cases h : c x ≤ j
    · rw [List.filter_cons, if_pos (by simpa using h), if_pos h, sW]
    · rw [List.filter_cons, if_neg (by simpa using h), if_neg h]; omega
theorem swap_v (c : Z → Nat) (m : Nat) : ∀ L : List Z, (∀ x ∈ L, c x ≤ m) → ((sumN m (fun j => (L.filter fun x => decide (c x ≤ j)).length * 2 ^ j) : Nat) : Int) + sumL (fun x => ((2 ^ c x : Nat) : Int)) L = L.length * ((2 ^ m : Nat) : Int)
  | [], _ => by simp only [List.filter_nil, List.length_nil, Nat.zero_mul, sumN_zero, sumL]; simp
  | x :: L, h => by
    have ih := swap_v c m L fun y hy => h y (by simp [hy])
    have hx := sumN_le (c x) m (h x (by simp))
    have e : sumN m (fun j => ((x :: L).filter fun x => decide (c x ≤ j)).length * 2 ^ j) = sumN m (fun j => if c x ≤ j then 2 ^ j else 0) + sumN m (fun j => (L.filter fun x => decide (c x ≤ j)).length * 2 ^ j) := by
      rw [← sumN_add]
      congr 1
      funext j
      by_cases h : c x ≤ j
      · rw [List.filter_cons, if_pos (by simpa using h), if_pos h, List.length_cons, Nat.add_mul]; omega
      · rw [List.filter_cons, if_neg (by simpa using h), if_neg h]; omega
    rw [e, sumL, List.length_cons, Int.natCast_add, Int.natCast_add, Int.add_mul]
    have hx' : ((sumN m (fun j => if c x ≤ j then 2 ^ j else 0) : Nat) : Int) + ((2 ^ c x : Nat) : Int) = ((2 ^ m : Nat) : Int) := by rw [← Int.natCast_add, hx]
    omega
/-- the least weight of lengths that a code has -/
theorem opt_le (L : List Z) (ha : Asc zle L) (hw : ∀ x ∈ L, 0 ≤ x.1.1.weight) (m : Nat) (hm : 1 ≤ m) (k : Z → Nat) (hk : ∀ x ∈ L, k x ≤ m) (hn : 1 ≤ L.length) (hkr : sumL (fun x => ((2 ^ (m - k x) : Nat) : Int)) L ≤ ((2 ^ m : Nat) : Int)) :
    sW ((zlvl L (m - 1)).take (2 * L.length - 2)) ≤ sumL (fun x => x.1.1.weight * ((k x : Nat) : Int)) L := by
  have hv := swap_v (fun x => m - k x) m L fun x _ => by omega
  have hc := coins L ha hw (fun j x => decide (m - k x ≤ j)) (m - 1) (2 * L.length - 2) (by
    rw [show m - 1 + 1 = m by omega]
    have h2 : (2 * L.length - 2) * 2 ^ (m - 1) = (L.length - 1) * 2 ^ m := by
      rw [show 2 * L.length - 2 = (L.length - 1) * 2 by omega, Nat.mul_assoc, ← Nat.pow_succ', show (m - 1).succ = m by omega]
    rw [h2]
    have h3 : (((L.length - 1) * 2 ^ m : Nat) : Int) + ((2 ^ m : Nat) : Int) = L.length * ((2 ^ m : Nat) : Int) := by
      rw [← Int.natCast_add, ← Nat.succ_mul, show (L.length - 1).succ = L.length by omega, Int.natCast_mul]
    omega)
  rw [show m - 1 + 1 = m by omega, swap_w] at hc
  refine Int.le_trans hc.2 (Int.le_of_eq (sumL_congr fun x hx => ?_))
  have := hk x hx
  rw [show m - (m - k x) = k x by omega]
/-- products of lists -/
def dot : List Int → List Int → Int
  | a :: r, b :: s => a * b + dot r s
  | _, _ => 0
theorem dot_zip : ∀ (a b c : List Int), a.length = b.length → dot (List.zipWith (· + ·) a b) c = dot a c + dot b c
  | [], [], c, _ => by simp [dot]
  | [], _ :: _, _, h => by simp at h
  | _ :: _, [], _, h => by simp at h
  | x :: a, y :: b, [], _ => by simp [dot]
  | x :: a, y :: b, z :: c, h => by
    rw [List.zipWith_cons_cons, dot, dot, dot, dot_zip a b c (by simpa using h), Int.add_mul]; omega
theorem dot_zero : ∀ (n : Nat) (c : List Int), dot (List.replicate n 0) c = 0
  | 0, c => by simp [dot]
  | n + 1, [] => by simp [dot, List.replicate_succ]
  | n + 1, z :: c => by rw [List.replicate_succ, dot, dot_zero n c]; omega
theorem dot_unit : ∀ (c : List Int) (s : Nat) (v : Int), c[s]? = some v → dot ((List.replicate c.length (0 : Int)).set s 1) c = v
  | [], s, v, h => by simp at h
  | z :: c, 0, v, h => by simp at h; subst h; simp [List.replicate_succ, dot, dot_zero]
  | z :: c, s + 1, v, h => by
    simp only [List.getElem?_cons_succ] at h
    rw [List.length_cons, List.replicate_succ, List.set_cons_succ, dot, dot_unit c s v h]; omega
/-- the leaves and the counts -/
theorem zlv_cnt (N : Nat) : ∀ (l l0 : List Int) (i : Nat), (∀ j, l[j]? = l0[i + j]?) → ∀ x ∈ zlv N l i, l0[x.1.1.symbol.toNat]? = some x.1.1.weight ∧ 0 < x.1.1.weight
  | [], l0, i, _, x, h => by simp [zlv] at h
  | c :: r, l0, i, hl, x, h => by
    have hr := zlv_cnt N r l0 (i + 1) fun j => by have := hl (j + 1); simp at this; rw [this]; congr 1; omega
    rw [zlv] at h
    by_cases hc : 0 < c
    · rw [if_pos hc, List.mem_cons] at h
      rcases h with rfl | h
      · refine ⟨?_, hc⟩
        have := hl 0
        simp at this
        simp only [Int.toNat_natCast]; exact this.symm
      · exact hr x h
    · rw [if_neg hc] at h; exact hr x h
theorem zleaves_cnt (counts : List Int) : ∀ x ∈ zleaves counts, counts[x.1.1.symbol.toNat]? = some x.1.1.weight ∧ 0 < x.1.1.weight := fun x hx => by
  rw [zleaves] at hx
  exact zlv_cnt _ counts counts 0 (fun j => by rw [Nat.zero_add]) x ((isort_perm (le := zle) _).mem_iff.1 hx)
theorem zlvl_dot (counts : List Int) : ∀ k, ∀ x ∈ zlvl (zleaves counts) k, x.1.1.weight = dot x.1.2.occ counts
  | 0, x, hx => by
    have h1 := (zleaves_leaf counts x hx).2.2
    have h2 := zleaves_cnt counts x hx
    rw [h1, rleaf]; exact (dot_unit counts _ _ h2.1).symm
  | k + 1, x, hx => by
    rw [zlvl] at hx
    have hx := (mrg_perm (le := zle) _ _).mem_iff.1 hx
    rw [List.mem_append] at hx
    rcases hx with hx | hx
    · have h1 := (zleaves_leaf counts x hx).2.2
      have h2 := zleaves_cnt counts x hx
      rw [h1, rleaf]; exact (dot_unit counts _ _ h2.1).symm
    · have hr : zr x ∈ (zpk (zlvl (zleaves counts) k) 0).map zr := List.mem_map.2 ⟨x, hx, rfl⟩
      rw [zpk_r _ _ 0 (Nat.le_refl _)] at hr
      obtain ⟨u, hu, v, hv, he⟩ := rpk_mem _ _ _ (Nat.le_refl _) hr
      obtain ⟨u', hu', rfl⟩ := List.mem_map.1 hu
      obtain ⟨v', hv', rfl⟩ := List.mem_map.1 hv
      have hz : zr x = x.1.2 := rfl
      rw [hz] at he
      have hl1 := (occ_len counts.length (zleaves counts) (zleaves_leaf counts) k u' hu').1
      have hl2 := (occ_len counts.length (zleaves counts) (zleaves_leaf counts) k v' hv').1
      have e1 := zlvl_dot counts k u' hu'
      have e2 := zlvl_dot counts k v' hv'
      have e3 := congrArg RItem.weight he
      have e4 := congrArg RItem.occ he
      simp only at e3 e4
      rw [x.2, e3, e4, zr, zr, dot_zip _ _ _ (by rw [hl1, hl2]), ← e1, ← e2, u'.2, v'.2]
theorem dot_sum (N : Nat) (c : List Int) : ∀ T : List Z, (∀ x ∈ T, x.1.2.occ.length = N) → dot ((List.range N).map (sumAt (T.map zr))) c = sumL (fun x => dot x.1.2.occ c) T
  | [], _ => by
    have : (List.range N).map (sumAt (([] : List Z).map zr)) = List.replicate N 0 := list_eq (by simp) fun i hi => by
      simp at hi
      rw [List.getElem?_map, List.getElem?_range hi, List.getElem?_replicate, if_pos hi]; rfl
    rw [this, dot_zero]; rfl
  | x :: T, h => by
    have hx := h x (by simp)
    have : (List.range N).map (sumAt ((x :: T).map zr)) = List.zipWith (· + ·) x.1.2.occ ((List.range N).map (sumAt (T.map zr))) := list_eq (by simp [hx]) fun i hi => by
      simp at hi
      rw [List.getElem?_map, List.getElem?_range hi, List.getElem?_zipWith, List.getElem?_map, List.getElem?_range hi, getD_of (l := x.1.2.occ) (by omega)]
      rfl
    rw [this, dot_zip _ _ _ (by simp [hx]), dot_sum N c T fun y hy => h y (by simp [hy])]; rfl
/-- counts times lengths, of the present symbols -/
def cst : List Int → List Int → Int
  | c :: cs, x :: xs => (if 0 < c then c * x else 0) + cst cs xs
  | _, _ => 0
theorem cst_dot : ∀ (c x : List Int), (∀ v ∈ c, 0 ≤ v) → cst c x = dot x c
  | [], x, _ => by cases x <;> simp [cst, dot]
  | v :: c, [], _ => by simp [cst, dot]
  | v :: c, y :: x, h => by
    have hv := h v (by simp)
    rw [cst, dot, cst_dot c x fun w hw => h w (by simp [hw])]
    by_cases h0 : 0 < v
    · rw [if_pos h0, Int.mul_comm]
    · have : v = 0 := by omega
      subst this; simp
theorem cst_z (N : Nat) : ∀ (l xs xs0 : List Int) (i : Nat), l.length ≤ xs.length → (∀ j, xs[j]? = xs0[i + j]?) → cst l xs = sumL (fun x => x.1.1.weight * xs0.getD x.1.1.symbol.toNat 0) (zlv N l i)
  | [], xs, xs0, i, _, _ => by cases xs <;> simp [cst, zlv, sumL]
  | c :: r, [], xs0, i, h, _ => by simp at h
  | c :: r, y :: xs, xs0, i, h, hx => by
    have hr := cst_z N r xs xs0 (i + 1) (by simpa using h) fun j => by have := hx (j + 1); simp at this; rw [this]; congr 1; omega
    have hy : xs0.getD i 0 = y := by have := hx 0; simp at this; simp [List.getD, ← this]
    rw [cst, zlv, hr]
    by_cases hc : 0 < c
    · rw [if_pos hc, if_pos hc, sumL]; simp only [Int.toNat_natCast, hy]
    · rw [if_neg hc, if_neg hc]; omega
end Go.Proofs.Ytlgdilkmcfpjjaa
namespace Go.Proofs.Ytlgdilkmcfpjjaa
open Go.Ab Go.Srt
set_option linter.unusedVariables false
set_option linter.unusedSimpArgs false
def msum (m : Int) : List Int → Int
  | [] => 0
  | k :: r => ((2 ^ (m - k).toNat : Nat) : Int) + msum m r
def pres : List Int → List Int → List Int
  | c :: cs, x :: xs => if 0 < c then x :: pres cs xs else pres cs xs
  | _, _ => []
theorem msum_z (m : Int) (N : Nat) : ∀ (l xs xs0 : List Int) (i : Nat), l.length ≤ xs.length → (∀ j, xs[j]? = xs0[i + j]?) → msum m (pres l xs) = sumL (fun x => ((2 ^ (m - xs0.getD x.1.1.symbol.toNat 0).toNat : Nat) : Int)) (zlv N l i)
  | [], xs, xs0, i, _, _ => by cases xs <;> simp [pres, zlv, sumL, msum]
  | c :: r, [], xs0, i, h, _ => by simp at h
  | c :: r, y :: xs, xs0, i, h, hx => by
    have hr := msum_z m N r xs xs0 (i + 1) (by simpa using h) fun j => by have := hx (j + 1); simp at this; rw [this]; congr 1; omega
    have hy : xs0.getD i 0 = y := by have := hx 0; simp at this; simp [List.getD, ← this]
    rw [pres, zlv]
    by_cases hc : 0 < c
    · rw [if_pos hc, if_pos hc, sumL, msum, hr]; simp only [Int.toNat_natCast, hy]
    · rw [if_neg hc, if_neg hc, hr]
theorem cst_one : ∀ (c o : List Int), c.length ≤ o.length → (∀ v ∈ o.take c.length, 1 ≤ v) → cst c (c.map one01) ≤ cst c o
  | [], o, _, _ => by cases o <;> simp [cst]
  | v :: c, [], h, _ => by simp at h
  | v :: c, x :: o, h, hx => by
    have ih := cst_one c o (by simpa using h) fun w hw => hx w (by simp [hw])
    have h1 := hx x (by simp)
    rw [List.map_cons, cst, cst]
    by_cases hc : 0 < v
    · rw [if_pos hc, if_pos hc, one01, if_pos hc]
      have := Int.mul_le_mul_of_nonneg_left h1 (Int.le_of_lt hc)
      omega
    · rw [if_neg hc, if_neg hc]; omega
theorem huff_few {counts : List Int} {limit : Int} (hck : checkH counts limit = 0) (h2 : (zleaves counts).length < 2) : huffL counts limit = (counts.map one01, 0) := by
  have hil := congrArg List.length (zleaves_i counts)
  rw [List.length_map] at hil
  rw [huffL, if_neg (by omega), if_pos (by omega)]
  have h3 : (lv counts 0).length < 2 := by
    have : (leavesL counts).length < 2 := by omega
    rw [leavesL, isort_length] at this; exact this
  have := ones_lv counts []
  simp only [List.length_nil, List.nil_append] at this
  rw [leavesL, isort_short _ h3, rep_map, this]
/-- the sum of the lengths that are found, by the taken items -/
theorem huff_cost {counts ln : List Int} {limit : Int} (hck : checkH counts limit = 0) (h2 : 2 ≤ (zleaves counts).length) (hl : huffL counts limit = (ln, 0)) :
    ln.length = counts.length ∧ cst counts ln = sW ((zlvl (zleaves counts) (limit.toNat - 1)).take (2 * (zleaves counts).length - 2)) := by
  obtain ⟨_, _, _, hc, _⟩ := checkH_ok hck
  obtain ⟨ln', h1, hln, hzl, hs⟩ := huff_get hck h2
  rw [hl] at h1
  obtain rfl : ln = ln' := by simpa using h1
  refine ⟨hln, ?_⟩
  obtain ⟨T, hT⟩ : ∃ T, (zlvl (zleaves counts) (limit.toNat - 1)).take (2 * (zleaves counts).length - 2) = T := ⟨_, rfl⟩
  rw [hT] at hs ⊢
  have hm : ∀ x ∈ T, x ∈ zlvl (zleaves counts) (limit.toNat - 1) := fun x hx => by rw [← hT] at hx; exact List.mem_of_mem_take hx
  have e : ln = (List.range counts.length).map (sumAt (T.map zr)) := list_eq (by simp [hln]) fun i hi => by
    rw [hs i (by omega), List.getElem?_map, List.getElem?_range (by omega)]; rfl
  rw [cst_dot _ _ fun v hv => (hc v hv).1, e, dot_sum _ _ _ fun x hx => (occ_len counts.length (zleaves counts) (zleaves_leaf counts) _ x (hm x hx)).1, sW_sumL]
  exact sumL_congr fun x hx => (zlvl_dot counts _ x (hm x hx)).symm
theorem cst_leaves (counts o : List Int) (h : counts.length ≤ o.length) : cst counts o = sumL (fun x => x.1.1.weight * o.getD x.1.1.symbol.toNat 0) (zleaves counts) := by
  rw [zleaves, sumL_perm _ (isort_perm (le := zle) _)]
  exact cst_z _ counts o o 0 h fun j => by rw [Nat.zero_add]
theorem msum_leaves (m : Int) (counts o : List Int) (h : counts.length ≤ o.length) : msum m (pres counts o) = sumL (fun x => ((2 ^ (m - o.getD x.1.1.symbol.toNat 0).toNat : Nat) : Int)) (zleaves counts) := by
  rw [zleaves, sumL_perm _ (isort_perm (le := zle) _)]
  exact msum_z m _ counts o o 0 h fun j => by rw [Nat.zero_add]
/-- no lengths that a code has cost less -/
theorem opt_plain {counts ln other : List Int} {limit : Int} (hck : checkH counts limit = 0) (hl : huffL counts limit = (ln, 0)) (hlen : counts.length ≤ other.length) (ho : ∀ j, j < counts.length → 1 ≤ other.getD j 0 ∧ other.getD j 0 ≤ limit) (hk : msum limit (pres counts other) ≤ ((2 ^ limit.toNat : Nat) : Int)) : cst counts ln ≤ cst counts other := by
  obtain ⟨hl1, hl2, hcl, hc, hn⟩ := checkH_ok hck
  by_cases h2 : (zleaves counts).length < 2
  · rw [huff_few hck h2] at hl
    obtain rfl : counts.map one01 = ln := by simpa using hl
    refine cst_one _ _ hlen fun v hv => ?_
    obtain ⟨i, hi, he⟩ := List.getElem_of_mem hv
    have hi' := hi
    rw [List.length_take] at hi'
    rw [List.getElem_take] at he
    have := (ho i (by omega)).1
    rw [List.getD, List.getElem?_eq_getElem (by omega), Option.getD_some, he] at this; exact this
  · have h2 : 2 ≤ (zleaves counts).length := by omega
    rw [(huff_cost hck h2 hl).2, cst_leaves _ _ hlen]
    rw [msum_leaves _ _ _ hlen] at hk
    have hin : ∀ x ∈ zleaves counts, 1 ≤ other.getD x.1.1.symbol.toNat 0 ∧ other.getD x.1.1.symbol.toNat 0 ≤ limit := fun x hx => by
      have := zleaves_leaf counts x hx
      exact ho _ (by have h1 := this.1; have h2 := this.2.1; omega)
    have := opt_le (zleaves counts) (isort_asc zle_ord _) (fun x hx => Int.le_of_lt (zleaves_cnt counts x hx).2) limit.toNat (by omega) (fun x => (other.getD x.1.1.symbol.toNat 0).toNat) (fun x hx => by have := hin x hx; show Int.toNat _ ≤ _; omega) (by omega) (by
      refine Int.le_trans (Int.le_of_eq (sumL_congr fun x hx => ?_)) hk
      have := hin x hx
      rw [show limit.toNat - (other.getD x.1.1.symbol.toNat 0).toNat = (limit - other.getD x.1.1.symbol.toNat 0).toNat by omega])
    refine Int.le_trans this (Int.le_of_eq (sumL_congr fun x hx => ?_))
    have := hin x hx
    rw [Int.toNat_of_nonneg (by omega)]
end Go.Proofs.Ytlgdilkmcfpjjaa
namespace Go.Proofs.Ytlgdilkmcfpjjaa
open Go.Ab Go.Srt
set_option linter.unusedVariables false
set_option linter.unusedSimpArgs false
theorem cst_nil (xs : List Int) : cst [] xs = 0 := by cases xs <;> rfl
theorem pres_nil (xs : List Int) : pres [] xs = [] := by cases xs <;> rfl
theorem cst_nonneg : ∀ (c x : List Int), (∀ v ∈ x, 0 ≤ v) → 0 ≤ cst c x
  | [], x, _ => by rw [cst_nil]; omega
  | v :: c, [], _ => by simp [cst]
  | v :: c, y :: x, h => by
    have := cst_nonneg c x fun w hw => h w (by simp [hw])
    have hy := h y (by simp)
    rw [cst]
    by_cases h0 : 0 < v
    · rw [if_pos h0]
      have := Int.mul_nonneg (Int.le_of_lt h0) hy
      omega
    · rw [if_neg h0]; omega
theorem unit_nonneg (N s : Nat) : ∀ v ∈ (List.replicate N (0 : Int)).set s 1, 0 ≤ v := fun v hv => by
  rcases List.mem_or_eq_of_mem_set hv with h | rfl
  · rw [(List.mem_replicate.1 h).2]; omega
  · omega
theorem zip_nonneg : ∀ (a b : List Int), (∀ v ∈ a, 0 ≤ v) → (∀ v ∈ b, 0 ≤ v) → ∀ v ∈ List.zipWith (· + ·) a b, 0 ≤ v
  | [], b, _, _, v, h => by simp at h
  | _ :: _, [], _, _, v, h => by simp at h
  | x :: a, y :: b, h1, h2, v, h => by
    rw [List.zipWith_cons_cons, List.mem_cons] at h
    rcases h with rfl | h
    · have := h1 x (by simp); have := h2 y (by simp); omega
    · exact zip_nonneg a b (fun w hw => h1 w (by simp [hw])) (fun w hw => h2 w (by simp [hw])) v h
theorem occ_nonneg (counts : List Int) : ∀ k, ∀ x ∈ zlvl (zleaves counts) k, ∀ v ∈ x.1.2.occ, 0 ≤ v
  | 0, x, hx => by
    rw [(zleaves_leaf counts x hx).2.2, rleaf]; exact unit_nonneg _ _
  | k + 1, x, hx => by
    rw [zlvl] at hx
    have hx := (mrg_perm (le := zle) _ _).mem_iff.1 hx
    rw [List.mem_append] at hx
    rcases hx with hx | hx
    · rw [(zleaves_leaf counts x hx).2.2, rleaf]; exact unit_nonneg _ _
    · have hr : zr x ∈ (zpk (zlvl (zleaves counts) k) 0).map zr := List.mem_map.2 ⟨x, hx, rfl⟩
      rw [zpk_r _ _ 0 (Nat.le_refl _)] at hr
      obtain ⟨u, hu, v, hv, he⟩ := rpk_mem _ _ _ (Nat.le_refl _) hr
      obtain ⟨u', hu', rfl⟩ := List.mem_map.1 hu
      obtain ⟨v', hv', rfl⟩ := List.mem_map.1 hv
      have hz : zr x = x.1.2 := rfl
      rw [hz] at he
      have e4 := congrArg RItem.occ he
      simp only at e4
      rw [e4]
      exact zip_nonneg _ _ (occ_nonneg counts k u' hu') (occ_nonneg counts k v' hv')
theorem sumAt_nonneg (s : Nat) : ∀ T : List RItem, (∀ x ∈ T, ∀ v ∈ x.occ, 0 ≤ v) → 0 ≤ sumAt T s
  | [], _ => Int.le_refl _
  | x :: T, h => by
    have := sumAt_nonneg s T fun y hy => h y (by simp [hy])
    have hx : 0 ≤ x.occ.getD s 0 := by
      by_cases hs : s < x.occ.length
      · exact h x (by simp) _ (List.mem_of_getElem? (getD_of hs))
      · rw [List.getD, List.getElem?_eq_none (by omega)]; exact Int.le_refl _
    rw [sumAt]; omega
theorem huff_nonneg {counts ln : List Int} {limit : Int} (hck : checkH counts limit = 0) (hl : huffL counts limit = (ln, 0)) : ln.length = counts.length ∧ ∀ v ∈ ln, 0 ≤ v := by
  by_cases h2 : 2 ≤ (zleaves counts).length
  · obtain ⟨ln', h1, hln, _, hs⟩ := huff_get hck h2
    rw [hl] at h1
    obtain rfl : ln = ln' := by simpa using h1
    refine ⟨hln, fun v hv => ?_⟩
    obtain ⟨s, h3, he⟩ := List.getElem_of_mem hv
    have := hs s (by omega)
    rw [List.getElem?_eq_getElem h3, he] at this
    rw [Option.some.inj this]
    refine sumAt_nonneg s _ fun x hx => ?_
    obtain ⟨x', hx', rfl⟩ := List.mem_map.1 hx
    exact occ_nonneg counts _ x' (List.mem_of_mem_take hx')
  · rw [huff_few hck (by omega)] at hl
    obtain rfl : counts.map one01 = ln := by simpa using hl
    refine ⟨by simp, fun v hv => ?_⟩
    obtain ⟨x, _, rfl⟩ := List.mem_map.1 hv
    rw [one01]; split <;> omega
theorem msum_rep (m : Int) : ∀ (c : List Int) (i : Nat), msum m (pres c (List.replicate c.length m)) = ((lv c i).length : Nat)
  | [], i => by simp [pres, lv, msum]
  | v :: c, i => by
    have := msum_rep m c (i + 1)
    rw [List.length_cons, List.replicate_succ, pres, lv]
    by_cases h : 0 < v
    · rw [if_pos h, if_pos h, msum, this, List.length_cons, show (m - m).toNat = 0 by omega]; omega
    · rw [if_neg h, if_neg h, this]
theorem cst_rep (m : Int) (h0 : 0 ≤ m) (h15 : m ≤ 15) : ∀ c : List Int, (∀ v ∈ c, 0 ≤ v ∧ v ≤ 4096) → cst c (List.replicate c.length m) ≤ c.length * 61440
  | [], _ => by simp [cst]
  | v :: c, h => by
    have := cst_rep m h0 h15 c fun w hw => h w (by simp [hw])
    have hv := h v (by simp)
    have hp : v * m ≤ 4096 * 15 := Int.mul_le_mul hv.2 h15 h0 (by omega)
    rw [List.length_cons, List.replicate_succ, cst]
    by_cases h : 0 < v
    · rw [if_pos h]; omega
    · rw [if_neg h]; omega
theorem huff_bound {counts ln : List Int} {limit : Int} (hck : checkH counts limit = 0) (hl : huffL counts limit = (ln, 0)) : cst counts ln ≤ counts.length * 61440 := by
  obtain ⟨hl1, hl2, hcl, hc, hn⟩ := checkH_ok hck
  refine Int.le_trans (opt_plain (other := List.replicate counts.length limit) hck hl (by simp) (fun j hj => ?_) ?_) (cst_rep limit (by omega) hl2 counts hc)
  · rw [List.getD, List.getElem?_replicate, if_pos hj]; simp; omega
  · rw [msum_rep limit counts 0]
    rw [leavesL, isort_length] at hn
    omega
end Go.Proofs.Ytlgdilkmcfpjjaa
