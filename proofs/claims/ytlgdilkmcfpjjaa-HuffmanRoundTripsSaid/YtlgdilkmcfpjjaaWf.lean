/- The program and the reference find the same lengths. -/
import Derived.Test.YtlgdilkmcfpjjaaWe
set_option linter.all false
set_option linter.unusedVariables false
set_option linter.unusedSimpArgs false
namespace Go.Proofs.Ytlgdilkmcfpjjaa
open Go.Ab Go.Srt
set_option linter.unusedVariables false
set_option linter.unusedSimpArgs false
/-- an item of the program's and the reference's item for it -/
abbrev Z := {p : Item × RItem // p.1.weight = p.2.weight}
def zle (x y : Z) : Bool := decide (x.1.1.weight ≤ y.1.1.weight)
def zi (x : Z) : Item := x.1.1
def zr (x : Z) : RItem := x.1.2
theorem zle_i (x y : Z) : zle x y = wle (zi x) (zi y) := rfl
theorem zle_r (x y : Z) : zle x y = rle (zr x) (zr y) := by
  have h1 := x.2
  have h2 := y.2
  simp only [zle, rle, zr]
  exact decide_eq_decide.2 (by rw [h1, h2])
theorem zle_ord : Srt.Ord zle := ⟨fun a b c h1 h2 => by simp only [zle, decide_eq_true_eq] at *; omega, fun a b => by simp only [zle, decide_eq_true_eq]; omega⟩
def zlv (N : Nat) : List Int → Nat → List Z
  | [], _ => []
  | c :: r, i => if 0 < c then ⟨(⟨c, i, 0, 0⟩, rleaf N i c), rfl⟩ :: zlv N r (i + 1) else zlv N r (i + 1)
theorem zlv_i (N : Nat) : ∀ (l : List Int) (i : Nat), (zlv N l i).map zi = lv l i
  | [], i => rfl
  | c :: r, i => by rw [zlv, lv]; split <;> simp [zlv_i N r (i + 1), zi]
theorem zlv_r (N : Nat) : ∀ (l : List Int) (i : Nat), (zlv N l i).map zr = rlv N l i
  | [], i => rfl
  | c :: r, i => by rw [zlv, rlv]; split <;> simp [zlv_r N r (i + 1), zr]
def zleaves (counts : List Int) : List Z := isort zle (zlv counts.length counts 0)
theorem zleaves_i (counts : List Int) : (zleaves counts).map zi = leavesL counts := by
  rw [zleaves, isort_map (le' := wle) zi zle_i, zlv_i]; rfl
theorem zleaves_r (counts : List Int) : (zleaves counts).map zr = rleaves counts := by
  rw [zleaves, isort_map (le' := rle) zr zle_r, zlv_r]; rfl
def zpk : List Z → Nat → List Z
  | x :: y :: r, i => ⟨(⟨x.1.1.weight + y.1.1.weight, -1, (i : Nat), ((i + 1 : Nat) : Int)⟩, ⟨x.1.2.weight + y.1.2.weight, false, List.zipWith (· + ·) x.1.2.occ y.1.2.occ⟩), by simp only [x.2, y.2]⟩ :: zpk r (i + 2)
  | _, _ => []
theorem zpk_i : ∀ (n : Nat) (l : List Z) (i : Nat), l.length ≤ n → (zpk l i).map zi = pk (l.map zi) i
  | _, [], i, _ => by simp [zpk, pk]
  | _, [x], i, _ => by simp [zpk, pk]
  | 0, x :: y :: r, i, h => by simp at h
  | n + 1, x :: y :: r, i, h => by
    simp only [List.length_cons] at h
    rw [zpk, List.map_cons, List.map_cons, List.map_cons, pk, zpk_i n r (i + 2) (by omega)]; rfl
theorem zpk_r : ∀ (n : Nat) (l : List Z) (i : Nat), l.length ≤ n → (zpk l i).map zr = rpk (l.map zr)
  | _, [], i, _ => by simp [zpk, rpk]
  | _, [x], i, _ => by simp [zpk, rpk]
  | 0, x :: y :: r, i, h => by simp at h
  | n + 1, x :: y :: r, i, h => by
    simp only [List.length_cons] at h
    rw [zpk, List.map_cons, List.map_cons, List.map_cons, rpk, zpk_r n r (i + 2) (by omega)]; rfl
theorem mrg_map {α β : Type} {le : α → α → Bool} {le' : β → β → Bool} (f : α → β) (h : ∀ x y, le x y = le' (f x) (f y)) : ∀ S T : List α, (mrg le S T).map f = mrg le' (S.map f) (T.map f)
  | [], T => by rw [nil_mrg, List.map_nil, nil_mrg]
  | s :: S, [] => by rw [mrg_nil, List.map_nil, mrg_nil]
  | s :: S, t :: T => by
    rw [mrg_cons, List.map_cons, List.map_cons, mrg_cons, ← h]
    split
    · rw [List.map_cons, mrg_map f h S (t :: T), List.map_cons]
    · rw [List.map_cons, mrg_map f h (s :: S) T, List.map_cons]
termination_by S T => S.length + T.length
def zlvl (L : List Z) : Nat → List Z
  | 0 => L
  | k + 1 => mrg zle L (zpk (zlvl L k) 0)
theorem zpk_mem : ∀ (n : Nat) (l : List Z) (i : Nat) (x : Z), l.length ≤ n → x ∈ zpk l i → ∃ u ∈ l, ∃ v ∈ l, x.1.1.weight = u.1.1.weight + v.1.1.weight ∧ x.1.1.symbol = -1
  | _, [], i, x, h, hx => by simp [zpk] at hx
  | _, [y], i, x, h, hx => by simp [zpk] at hx
  | 0, x :: y :: r, i, _, h, _ => by simp at h
  | n + 1, a :: b :: r, i, x, h, hx => by
    rw [zpk, List.mem_cons] at hx
    rcases hx with rfl | hx
    · exact ⟨a, by simp, b, by simp, rfl, rfl⟩
    · simp only [List.length_cons] at h
      obtain ⟨u, hu, v, hv, he⟩ := zpk_mem n r (i + 2) x (by omega) hx
      exact ⟨u, by simp [hu], v, by simp [hv], he⟩
theorem zpk_asc : ∀ (n : Nat) (l : List Z) (i : Nat), l.length ≤ n → Asc zle l → Asc zle (zpk l i)
  | _, [], i, _, _ => by simp [zpk]
  | _, [x], i, _, _ => by simp [zpk]
  | 0, x :: y :: r, i, h, _ => by simp at h
  | n + 1, x :: y :: r, i, h, ha => by
    simp only [List.length_cons] at h
    have h1 := List.pairwise_cons.1 ha
    have h2 := List.pairwise_cons.1 h1.2
    rw [zpk, Asc, List.pairwise_cons]
    refine ⟨fun z hz => ?_, zpk_asc n r (i + 2) (by omega) h2.2⟩
    obtain ⟨u, hu, v, hv, he, _⟩ := zpk_mem r.length r (i + 2) z (Nat.le_refl _) hz
    have a1 := h1.1 u (by simp [hu])
    have a2 := h2.1 v hv
    simp only [zle, decide_eq_true_eq] at a1 a2 ⊢
    omega
theorem zlvl_asc (L : List Z) (h : Asc zle L) : ∀ k, Asc zle (zlvl L k)
  | 0 => h
  | k + 1 => mrg_asc zle_ord _ _ h (zpk_asc _ _ 0 (Nat.le_refl _) (zlvl_asc L h k))
theorem zlvl_i (L : List Z) (h : Asc zle L) : ∀ k, (zlvl L k).map zi = lvl (L.map zi) k
  | 0 => rfl
  | k + 1 => by
    rw [zlvl, lvl, nextL, ← zlvl_i L h k, ← zpk_i _ _ 0 (Nat.le_refl _), ← List.map_append, ← isort_map (le := zle) zi zle_i, ← isort_append zle_ord, isort_of_asc L h, isort_of_asc _ (zpk_asc _ _ 0 (Nat.le_refl _) (zlvl_asc L h k))]
theorem zlvl_r (L : List Z) : ∀ k, (zlvl L k).map zr = rlvl (L.map zr) k
  | 0 => rfl
  | k + 1 => by
    rw [zlvl, rlvl, ← zlvl_r L k, ← zpk_r _ _ 0 (Nat.le_refl _), mrg_map (le' := rle) zr zle_r]
theorem zpk_len : ∀ (n : Nat) (l : List Z) (i : Nat), l.length ≤ n → (zpk l i).length = l.length / 2
  | _, [], i, h => by simp [zpk]
  | _, [x], i, h => by simp [zpk]
  | 0, x :: y :: r, i, h => by simp at h
  | n + 1, x :: y :: r, i, h => by
    simp only [List.length_cons] at h
    rw [zpk, List.length_cons, zpk_len n r (i + 2) (by omega)]; simp only [List.length_cons]; omega
/-- packages -/
def isP (x : Z) : Bool := decide (x.1.1.symbol < 0)
theorem filter_mrg {α : Type} {le : α → α → Bool} (q : α → Bool) : ∀ S T : List α, (∀ x ∈ S, q x = false) → (∀ x ∈ T, q x = true) → (mrg le S T).filter q = T
  | [], T, _, h => by rw [nil_mrg, List.filter_eq_self]; exact h
  | s :: S, [], h, _ => by rw [mrg_nil, List.filter_eq_nil_iff]; intro x hx; simp [h x hx]
  | s :: S, t :: T, h, h' => by
    rw [mrg_cons]; split
    · rw [List.filter_cons, if_neg (by simp [h s (by simp)]), filter_mrg q S (t :: T) (fun x hx => h x (by simp [hx])) h']
    · rw [List.filter_cons, if_pos (h' t (by simp)), filter_mrg q (s :: S) T h fun x hx => h' x (by simp [hx])]
termination_by S T => S.length + T.length
theorem filter_not_mrg {α : Type} {le : α → α → Bool} (q : α → Bool) : ∀ S T : List α, (∀ x ∈ S, q x = true) → (∀ x ∈ T, q x = false) → (mrg le S T).filter q = S
  | [], T, _, h => by rw [nil_mrg, List.filter_eq_nil_iff]; intro x hx; simp [h x hx]
  | s :: S, [], h, _ => by rw [mrg_nil, List.filter_eq_self]; exact h
  | s :: S, t :: T, h, h' => by
    rw [mrg_cons]; split
    · rw [List.filter_cons, if_pos (h s (by simp)), filter_not_mrg q S (t :: T) (fun x hx => h x (by simp [hx])) h']
    · rw [List.filter_cons, if_neg (by simp [h' t (by simp)]), filter_not_mrg q (s :: S) T h fun x hx => h' x (by simp [hx])]
termination_by S T => S.length + T.length
theorem filter_take {α : Type} (q : α → Bool) (l : List α) (t : Nat) : (l.take t).filter q = (l.filter q).take ((l.take t).filter q).length := by
  conv => rhs; rw [← List.take_append_drop t l, List.filter_append]
  rw [List.take_append_drop, List.take_left]

/-- the leaves' items: one symbol each -/
def LeafZ (N : Nat) (x : Z) : Prop := 0 ≤ x.1.1.symbol ∧ x.1.1.symbol < N ∧ x.1.2 = rleaf N x.1.1.symbol.toNat x.1.1.weight
theorem zlv_leaf (N : Nat) : ∀ (l : List Int) (i : Nat), i + l.length ≤ N → ∀ x ∈ zlv N l i, LeafZ N x
  | [], i, _, x, h => by simp [zlv] at h
  | c :: r, i, hi, x, h => by
    simp only [List.length_cons] at hi
    rw [zlv] at h
    split at h
    · rw [List.mem_cons] at h
      rcases h with rfl | h
      · exact ⟨by simp only; omega, by simp only; omega, by simp⟩
      · exact zlv_leaf N r (i + 1) (by omega) x h
    · exact zlv_leaf N r (i + 1) (by omega) x h
theorem zleaves_leaf (counts : List Int) : ∀ x ∈ zleaves counts, LeafZ counts.length x := fun x hx => by
  rw [zleaves] at hx
  exact zlv_leaf _ counts 0 (by omega) x ((isort_perm (le := zle) _).mem_iff.1 hx)
/-- how often a symbol is among some items' leaves -/
def cnt (T : List Z) (s : Nat) : Int := ((T.filter fun x => decide (x.1.1.symbol = (s : Int))).length : Nat)
theorem cnt_cons (x : Z) (T : List Z) (s : Nat) : cnt (x :: T) s = (if x.1.1.symbol = (s : Int) then 1 else 0) + cnt T s := by
  simp only [cnt, List.filter_cons]
  by_cases h : x.1.1.symbol = (s : Int)
  · rw [if_pos (by simpa using h), if_pos h]; simp; omega
  · rw [if_neg (by simpa using h), if_neg h]; simp
/-- what the program's counting gives -/
theorem walk_get : ∀ (T : List Z) (l : List Int) (p s : Nat), (∀ x ∈ T, x.1.1.symbol < l.length) → s < l.length → (walk (T.map zi) l p).1.getD s 0 = l.getD s 0 + cnt T s
  | [], l, p, s, _, _ => by simp [walk, cnt]
  | x :: T, l, p, s, hT, hs => by
    have hx := hT x (by simp)
    have hT' : ∀ y ∈ T, y.1.1.symbol < l.length := fun y hy => hT y (by simp [hy])
    rw [List.map_cons, walk, cnt_cons]
    by_cases h0 : 0 ≤ (zi x).symbol
    · rw [if_pos h0, walk_get T _ p s (fun y hy => by rw [List.length_set]; exact hT' y hy) (by rw [List.length_set]; exact hs)]
      have hz : (zi x).symbol = x.1.1.symbol := rfl
      by_cases he : x.1.1.symbol = (s : Int)
      · have : (zi x).symbol.toNat = s := by rw [hz, he]; rfl
        rw [if_pos he, this]
        simp only [List.getD, List.getElem?_set, if_pos hs]
        simp; omega
      · have : (zi x).symbol.toNat ≠ s := by rw [hz] at h0 ⊢; omega
        rw [if_neg he]
        simp only [List.getD, List.getElem?_set, if_neg this]
        omega
    · have he : ¬ x.1.1.symbol = (s : Int) := by have hz : (zi x).symbol = x.1.1.symbol := rfl; omega
      rw [if_neg h0, if_neg he, walk_get T _ (p + 1) s hT' hs]; omega
/-- the packages among some items -/
theorem sum_split (N : Nat) (s : Nat) (hs : s < N) : ∀ T : List Z, (∀ x ∈ T, LeafZ N x ∨ x.1.1.symbol = -1) → sumAt (T.map zr) s = cnt T s + sumAt ((T.filter isP).map zr) s
  | [], _ => by simp [sumAt, cnt]
  | x :: T, h => by
    have ih := sum_split N s hs T fun y hy => h y (by simp [hy])
    rw [List.map_cons, sumAt, ih, cnt_cons, List.filter_cons]
    rcases h x (by simp) with ⟨h1, h2, h3⟩ | h1
    · have hP : isP x = false := by simp only [isP, decide_eq_false_iff_not]; omega
      rw [hP, if_neg (show ¬ (false = true) by simp)]
      have : (zr x).occ.getD s 0 = if x.1.1.symbol = (s : Int) then 1 else 0 := by
        have hz : zr x = x.1.2 := rfl
        rw [hz, h3, rleaf]
        simp only [List.getD, List.getElem?_set, List.length_replicate]
        by_cases he : x.1.1.symbol = (s : Int)
        · rw [if_pos he, if_pos (by omega), if_pos (by omega)]; rfl
        · rw [if_neg he, if_neg (by omega), List.getElem?_replicate, if_pos hs]; rfl
      rw [this]; omega
    · have hP : isP x = true := by simp [isP, h1]
      rw [hP, if_pos rfl, if_neg (by omega), List.map_cons, sumAt]; omega
theorem zip_getD (a b : List Int) (s : Nat) (h : a.length = b.length) : (List.zipWith (· + ·) a b).getD s 0 = a.getD s 0 + b.getD s 0 := by
  simp only [List.getD, List.getElem?_zipWith]
  cases ha : a[s]? with
  | none =>
    have : b[s]? = none := by rw [List.getElem?_eq_none_iff] at ha ⊢; omega
    rw [this]; rfl
  | some u =>
    cases hb : b[s]? with
    | none => rw [List.getElem?_eq_none_iff] at hb; have := (List.getElem?_eq_some_iff.1 ha).1; omega
    | some v => rfl
theorem sum_pk (N s : Nat) : ∀ (n : Nat) (l : List Z) (i p : Nat), l.length ≤ n → (∀ x ∈ l, x.1.2.occ.length = N) → 2 * p ≤ l.length → sumAt (((zpk l i).take p).map zr) s = sumAt ((l.take (2 * p)).map zr) s
  | _, l, i, 0, _, _, _ => by simp [sumAt]
  | _, [], i, p + 1, _, _, h => by simp at h
  | _, [x], i, p + 1, _, _, h => by simp at h; omega
  | 0, x :: y :: r, i, p + 1, h, _, _ => by simp at h
  | n + 1, x :: y :: r, i, p + 1, h, ho, hp => by
    simp only [List.length_cons] at h hp
    rw [zpk, List.take_succ_cons, List.map_cons, sumAt, sum_pk N s n r (i + 2) p (by omega) (fun z hz => ho z (by simp [hz])) (by omega),
      show 2 * (p + 1) = (2 * p) + 1 + 1 by omega, List.take_succ_cons, List.take_succ_cons, List.map_cons, List.map_cons, sumAt, sumAt]
    have := zip_getD x.1.2.occ y.1.2.occ s (by rw [ho x (by simp), ho y (by simp)])
    simp only [zr] at this ⊢
    rw [this]; omega
theorem occ_len (N : Nat) (L : List Z) (hL : ∀ x ∈ L, LeafZ N x) : ∀ k, ∀ x ∈ zlvl L k, x.1.2.occ.length = N ∧ (LeafZ N x ∨ x.1.1.symbol = -1)
  | 0, x, hx => by
    have := hL x hx
    exact ⟨by rw [this.2.2]; simp [rleaf], .inl this⟩
  | k + 1, x, hx => by
    have ih := occ_len N L hL k
    rw [zlvl] at hx
    have hx := (mrg_perm (le := zle) _ _).mem_iff.1 hx
    rw [List.mem_append] at hx
    rcases hx with hx | hx
    · have := hL x hx
      exact ⟨by rw [this.2.2]; simp [rleaf], .inl this⟩
    · have hr : zr x ∈ (zpk (zlvl L k) 0).map zr := List.mem_map.2 ⟨x, hx, rfl⟩
      rw [zpk_r _ _ 0 (Nat.le_refl _)] at hr
      obtain ⟨u, hu, v, hv, he⟩ := rpk_mem _ _ _ (Nat.le_refl _) hr
      obtain ⟨u', hu', rfl⟩ := List.mem_map.1 hu
      obtain ⟨v', hv', rfl⟩ := List.mem_map.1 hv
      obtain ⟨_, _, _, _, _, hs⟩ := zpk_mem _ _ 0 x (Nat.le_refl _) hx
      have hz : zr x = x.1.2 := rfl
      rw [hz] at he
      refine ⟨?_, .inr hs⟩
      rw [he, List.length_zipWith]
      have a1 := (ih u' hu').1
      have a2 := (ih v' hv').1
      simp only [zr]
      omega
theorem filter_isP (N : Nat) (L : List Z) (hL : ∀ x ∈ L, LeafZ N x) (k : Nat) : (zlvl L (k + 1)).filter isP = zpk (zlvl L k) 0 := by
  rw [zlvl]
  refine filter_mrg isP _ _ (fun x hx => ?_) fun x hx => ?_
  · have := (hL x hx).1; simp [isP]; omega
  · obtain ⟨_, _, _, _, _, hs⟩ := zpk_mem _ _ 0 x (Nat.le_refl _) hx
    simp [isP, hs]
theorem pks_isP (T : List Z) : pks (T.map zi) = (T.filter isP).length := by
  rw [pks, List.filter_map, List.length_map]; rfl
theorem zlvl_len (L : List Z) : ∀ k, (zlvl L (k + 1)).length = L.length + (zlvl L k).length / 2 := fun k => by
  rw [zlvl, mrg_length, zpk_len _ _ 0 (Nat.le_refl _)]
/-- the program's lengths are the numbers of occurrences -/
theorem back_get (N : Nat) (L : List Z) (ha : Asc zle L) (hL : ∀ x ∈ L, LeafZ N x) (s : Nat) (hs : s < N) : ∀ (k t : Nat) (l : List Int), l.length = N → t ≤ (zlvl L k).length →
    (back (L.map zi) k t l).getD s 0 = l.getD s 0 + sumAt (((zlvl L k).take t).map zr) s
  | 0, t, l, hl, ht => by
    have hsy : ∀ x ∈ (zlvl L 0).take t, x.1.1.symbol < l.length := fun x hx => by
      have := hL x (List.mem_of_mem_take hx); rw [hl]; exact this.2.1
    rw [back, ← zlvl_i L ha 0, ← List.map_take, walk_get _ l 0 s hsy (by omega), sum_split N s hs ((zlvl L 0).take t) fun x hx => .inl (hL x (List.mem_of_mem_take hx))]
    have : ((zlvl L 0).take t).filter isP = [] := by
      rw [List.filter_eq_nil_iff]; intro x hx
      have := (hL x (List.mem_of_mem_take hx)).1; simp [isP]; omega
    rw [this]; simp [sumAt]
  | k + 1, t, l, hl, ht => by
    obtain ⟨T, hT⟩ : ∃ T, (zlvl L (k + 1)).take t = T := ⟨_, rfl⟩
    have hTm : ∀ x ∈ T, x ∈ zlvl L (k + 1) := fun x hx => by rw [← hT] at hx; exact List.mem_of_mem_take hx
    have hocc := occ_len N L hL
    have hsy : ∀ x ∈ T, x.1.1.symbol < l.length := fun x hx => by
      rcases (hocc (k + 1) x (hTm x hx)).2 with h | h
      · rw [hl]; exact h.2.1
      · omega
    have hp := walk_pks (T.map zi) l 0
    rw [pks_isP, Nat.zero_add] at hp
    have hTP : T.filter isP = (zpk (zlvl L k) 0).take (T.filter isP).length := by
      conv => lhs; rw [← hT, filter_take, hT, filter_isP N L hL]
    have hple : (T.filter isP).length ≤ (zlvl L k).length / 2 := by
      have := congrArg List.length hTP
      rw [List.length_take, zpk_len _ _ 0 (Nat.le_refl _)] at this
      omega
    rw [back, ← zlvl_i L ha (k + 1), ← List.map_take, hT, hp, back_get N L ha hL s hs k _ _ (by rw [walk_len]; exact hl) (by omega),
      walk_get T l 0 s hsy (by omega), sum_split N s hs T fun x hx => (hocc (k + 1) x (hTm x hx)).2]
    have := sum_pk N s (zlvl L k).length (zlvl L k) 0 (T.filter isP).length (Nat.le_refl _) (fun x hx => (hocc k x hx).1) (by omega)
    rw [← hTP] at this
    omega
end Go.Proofs.Ytlgdilkmcfpjjaa
namespace Go.Proofs.Ytlgdilkmcfpjjaa
open Go.Ab Go.Srt
set_option linter.unusedVariables false
set_option linter.unusedSimpArgs false
theorem isort_short {α : Type} {le : α → α → Bool} : ∀ q : List α, q.length < 2 → isort le q = q
  | [], _ => rfl
  | [x], _ => rfl
  | x :: y :: r, h => by simp at h; omega
theorem ones_lv : ∀ (r A : List Int), ones (lv r A.length) (A ++ r.map (fun _ => (0 : Int))) = A ++ r.map one01
  | [], A => by simp [lv, ones]
  | c :: r, A => by
    rw [lv]
    by_cases h : 0 < c
    · rw [if_pos h, ones, List.foldl_cons]
      have hs : (A ++ (c :: r).map (fun _ => (0 : Int))).set (((A.length : Nat) : Int)).toNat 1 = (A ++ [1]) ++ r.map (fun _ => (0 : Int)) := (set_of_eq (A := A) rfl (by simp)).trans (by simp)
      rw [hs]
      have := ones_lv r (A ++ [1])
      rw [ones] at this
      simp only [List.length_append, List.length_cons, List.length_nil] at this
      rw [this]; simp [one01, h]
    · rw [if_neg h]
      have := ones_lv r (A ++ [0])
      simp only [List.length_append, List.length_cons, List.length_nil] at this
      rw [show A ++ (c :: r).map (fun _ => (0 : Int)) = (A ++ [0]) ++ r.map (fun _ => (0 : Int)) by simp, this]; simp [one01, h]
theorem getD_of {l : List Int} {s : Nat} (h : s < l.length) : l[s]? = some (l.getD s 0) := by
  rw [List.getElem?_eq_getElem h, List.getD, List.getElem?_eq_getElem h]; rfl
theorem zlvl_len_eq (L : List Z) (h : Asc zle L) (k : Nat) : (zlvl L k).length = (lvl (L.map zi) k).length := by
  rw [← zlvl_i L h k, List.length_map]
/-- the program's lengths as occurrences -/
theorem huff_get {counts : List Int} {limit : Int} (hck : checkH counts limit = 0) (h2 : 2 ≤ (zleaves counts).length) : ∃ ln, huffL counts limit = (ln, 0) ∧ ln.length = counts.length ∧ 2 * (zleaves counts).length - 2 ≤ (zlvl (zleaves counts) (limit.toNat - 1)).length ∧
    ∀ s, s < counts.length → ln[s]? = some (sumAt (((zlvl (zleaves counts) (limit.toNat - 1)).take (2 * (zleaves counts).length - 2)).map zr) s) := by
  obtain ⟨hl1, hl2, hcl, hc, hn⟩ := checkH_ok hck
  have ha : Asc zle (zleaves counts) := isort_asc zle_ord _
  have hi := zleaves_i counts
  have hil := congrArg List.length hi
  rw [List.length_map] at hil
  have hge := lvl_len_ge (leavesL counts) (limit.toNat - 1) 2 (by
    have : limit.toNat = (limit.toNat - 1) + 1 := by omega
    rw [this, Nat.pow_succ] at hn
    rw [Nat.mul_comm]; exact hn)
  have hzl : 2 * (zleaves counts).length - 2 ≤ (zlvl (zleaves counts) (limit.toNat - 1)).length := by
    rw [zlvl_len_eq _ ha, hi]; omega
  refine ⟨back (leavesL counts) (limit.toNat - 1) (2 * (leavesL counts).length - 2) (List.replicate counts.length 0), ?_, ?_, hzl, fun s hs => ?_⟩
  · rw [huffL, if_neg (by omega), if_neg (by omega)]
  · rw [back_len, List.length_replicate]
  · rw [getD_of (by rw [back_len, List.length_replicate]; exact hs), ← hi, List.length_map, back_get counts.length (zleaves counts) ha (zleaves_leaf counts) s hs _ _ _ (by simp) hzl]
    congr 1
    simp only [List.getD, List.getElem?_replicate, if_pos hs]
    simp
theorem huff_ref (counts : List Int) (limit : Int) : huffL counts limit = refL counts limit := by
  by_cases hck : checkH counts limit ≠ 0
  · rw [huffL, if_pos hck, refL, if_pos hck]
  have hck0 : checkH counts limit = 0 := by omega
  have hi := zleaves_i counts
  have hr := zleaves_r counts
  have hil := congrArg List.length hi
  have hrl := congrArg List.length hr
  rw [List.length_map] at hil hrl
  by_cases hn : (leavesL counts).length < 2
  · rw [huffL, if_neg hck, if_pos hn, refL, if_neg hck, if_pos (by omega)]
    have h3 : (lv counts 0).length < 2 := by rw [leavesL, isort_length] at hn; exact hn
    rw [leavesL, isort_short _ h3]
    have := ones_lv counts []
    simp only [List.length_nil, List.nil_append] at this
    rw [rep_map, this]
  · obtain ⟨ln, h1, h2, h3, h4⟩ := huff_get hck0 (by omega)
    rw [h1, refL, if_neg hck, if_neg (by omega)]
    congr 1
    refine list_eq (by simp [h2]) fun s hs => ?_
    rw [h4 s (by omega), List.getElem?_map, List.getElem?_range (by omega), ← hr, List.length_map, ← zlvl_r, ← List.map_take]; rfl
end Go.Proofs.Ytlgdilkmcfpjjaa
