/- A part of the proof: RX21. -/
import Derived.Test.YtjmbjgecfpggdaaDoorMX20
set_option linter.all false
set_option linter.unusedVariables false
set_option linter.unusedSimpArgs false
namespace Go.Rx
open Go
set_option linter.unusedVariables false
set_option linter.unusedSimpArgs false
theorem dcL_take {b : Nat} {r : List Nat} (h : okUn ⟨((dcL (b :: r)).1 : Nat), (dcL (b :: r)).2⟩ = true) (n : Nat) : dcL ((b :: r).take ((dcL (b :: r)).2 + n)) = dcL (b :: r) := by
  have hw := dcL_w (l := b :: r) (by simp)
  obtain ⟨w, hw'⟩ : ∃ w, (dcL (b :: r)).2 = w + 1 := ⟨(dcL (b :: r)).2 - 1, by omega⟩
  rw [hw', show w + 1 + n = (w + n) + 1 by omega, List.take_succ_cons]
  show dc b (r.take (w + n)) = dc b r
  change (dc b r).2 = w + 1 at hw'
  change okUn ⟨((dc b r).1 : Nat), (dc b r).2⟩ = true at h
  by_cases h0 : w = 0
  · subst h0
    have hd := dc_cases b r
    generalize hv : dc b r = v at hd h hw'
    cases hd with
    | one h1 => unfold dc; rw [if_pos h1]
    | two x r' hr hx hb h1 => simp at hw'
    | three x y r' hr hx hy hb h1 => simp at hw'
    | four x y z r' hr hx hy hz hb h1 => simp at hw'
    | bad h1 => simp [okUn] at h
  · rw [List.take_add]
    exact dc_take w hw' (by omega) _
theorem unL_take : ∀ (i f : Nat) (l : List Nat), l.length ≤ f → (unL f l).all okUn = true → unL f (l.take (bts ((unL f l).take i))) = (unL f l).take i
  | 0, f, l, _, _ => by simp [bts, unL_nil]
  | i + 1, f, [], _, _ => by simp [unL_nil]
  | i + 1, 0, b :: r, h, _ => by simp at h
  | i + 1, f + 1, b :: r, h, hv => by
    have hw := dcL_w (l := b :: r) (by simp)
    have hlen : (b :: r).length = r.length + 1 := rfl
    rw [unL, List.all_cons, Bool.and_eq_true] at hv
    have ih := unL_take i f ((b :: r).drop (dcL (b :: r)).2) (by rw [List.length_drop]; omega) hv.2
    rw [unL, List.take_succ_cons, bts]
    simp only
    obtain ⟨n, hn⟩ : ∃ n, bts ((unL f ((b :: r).drop (dcL (b :: r)).2)).take i) = n := ⟨_, rfl⟩
    rw [hn] at ih ⊢
    have ht := dcL_take hv.1 n
    obtain ⟨w, hw'⟩ : ∃ w, (dcL (b :: r)).2 = w + 1 := ⟨(dcL (b :: r)).2 - 1, by omega⟩
    have hcons : (b :: r).take ((dcL (b :: r)).2 + n) = b :: r.take (w + n) := by rw [hw', show w + 1 + n = (w + n) + 1 by omega, List.take_succ_cons]
    rw [hcons] at ht ⊢
    rw [unL, ht]
    congr 1
    rw [← hcons, List.drop_take, show (dcL (b :: r)).2 + n - (dcL (b :: r)).2 = n by omega]
    exact ih
/-- where the i-th code point begins -/
def atN (s : ByteArray) (i : Nat) : Nat := bts ((rst s 0).take i)
theorem rst_drop (s : ByteArray) : ∀ (i j : Nat), rst s (j + bts ((rst s j).take i)) = (rst s j).drop i
  | 0, j => by simp [bts]
  | i + 1, j => by
    by_cases hj : j < s.size
    · have h := rst_lt hj
      obtain ⟨R, hR⟩ : ∃ R, rst s j = R := ⟨_, rfl⟩
      rw [hR] at h
      rw [hR, h, List.take_succ_cons, bts, List.drop_succ_cons, ← rst_drop s i]
      simp only
      congr 1; omega
    · rw [rst_ge (s := s) (i := j) (by omega)]; simp [bts]; exact rst_ge (by omega)
theorem atN_le (s : ByteArray) (i : Nat) : atN s i ≤ s.size := by
  have h := rst_size (s := s) (i := 0) (Nat.zero_le _)
  have : ∀ (l : List U) (i : Nat), bts (l.take i) ≤ bts l := fun l => by
    induction l with
    | nil => intro i; simp
    | cons u l ih => intro i; cases i with
      | zero => simp [bts]
      | succ i => rw [List.take_succ_cons, bts, bts]; have := ih i; omega
  have := this (rst s 0) i
  unfold atN; omega
theorem atN_all (s : ByteArray) : atN s (rst s 0).length = s.size := by
  unfold atN
  rw [List.take_length, rst_size (Nat.zero_le _)]; omega
theorem rst_pos (s : ByteArray) : ∀ (f i : Nat), s.size - i ≤ f → ∀ u ∈ rst s i, 1 ≤ u.n
  | 0, i, h, u, hu => by rw [rst_ge (by omega)] at hu; simp at hu
  | f + 1, i, h, u, hu => by
    by_cases hi : i < s.size
    · have hw := dec_w s i hi
      rw [rst_lt hi, List.mem_cons] at hu
      rcases hu with rfl | hu
      · exact hw.1
      · exact rst_pos s f _ (by omega) u hu
    · rw [rst_ge (by omega)] at hu; simp at hu
theorem atN_pos (s : ByteArray) {i : Nat} (h : 0 < i) (hi : i ≤ (rst s 0).length) : 0 < atN s i := by
  have hp := rst_pos s s.size 0 (by omega)
  unfold atN
  cases hr : rst s 0 with
  | nil => rw [hr] at hi; simp at hi; omega
  | cons u l =>
    obtain ⟨k, rfl⟩ : ∃ k, i = k + 1 := ⟨i - 1, by omega⟩
    have := hp u (by rw [hr]; simp)
    rw [List.take_succ_cons, bts]; omega
theorem rst_suf (s : ByteArray) (i : Nat) : rst (s.extract (atN s i) s.size) 0 = (rst s 0).drop i := by
  have hle := atN_le s i
  have hl := btN_len s
  have h1 := rst_drop s i 0
  rw [Nat.zero_add] at h1
  rw [← h1]
  have hb : btN (s.extract (atN s i) s.size) = (btN s).drop (atN s i) := by
    rw [btN, btN, ByteArray.data_extract, Array.toList_extract, List.extract_eq_take_drop, List.map_take, List.map_drop]
    refine List.take_of_length_le ?_
    rw [List.length_drop, List.length_map, Array.length_toList]
    exact Nat.le_refl _
  have hlb := btN_len (s.extract (atN s i) s.size)
  rw [hb, List.length_drop, hl] at hlb
  rw [rst_unL _ s.size 0 (by omega), List.drop_zero, hb]
  exact (rst_unL s s.size (atN s i) (by omega)).symm
theorem rst_pre (s : ByteArray) (hv : vldS s = true) (i : Nat) : rst (s.extract 0 (atN s i)) 0 = (rst s 0).take i := by
  have hle := atN_le s i
  have hl := btN_len s
  have hu : rst s 0 = unL s.size (btN s) := by rw [rst_unL s s.size 0 (by omega), List.drop_zero]
  have hb : btN (s.extract 0 (atN s i)) = (btN s).take (atN s i) := by
    rw [btN, btN, ByteArray.data_extract, Array.toList_extract, List.extract_eq_take_drop, List.map_take, List.map_drop, List.drop_zero, Nat.sub_zero]
  have hlb := btN_len (s.extract 0 (atN s i))
  rw [hb, List.length_take, hl] at hlb
  rw [rst_unL _ s.size 0 (by omega), List.drop_zero, hb]
  have hv' : (unL s.size (btN s)).all okUn = true := by rw [← hu]; exact hv
  have := unL_take i s.size (btN s) (by omega) hv'
  rw [← hu] at this
  exact this
section
variable {vs : Int → List Int} {s : ByteArray}
theorem all_take {α : Type} {p : α → Bool} {l : List α} (h : l.all p = true) (i : Nat) : (l.take i).all p = true ∧ (l.drop i).all p = true := by
  rw [List.all_eq_true] at h
  exact ⟨List.all_eq_true.2 fun x hx => h x (List.mem_of_mem_take hx), List.all_eq_true.2 fun x hx => h x (List.mem_of_mem_drop hx)⟩
theorem mtS_pre (hv : vldS s = true) {a : Rx} (i : Nat) : mtS vs a (s.extract 0 (atN s i)) = true ↔ val a = 0 ∧ mt (okV vs) a ((runes s).take i) = true := by
  have h := (all_take hv i).1
  rw [mtS_iff, vldS, runes, rst_pre s hv i, List.map_take, ← runes]
  exact ⟨fun h => ⟨h.1, h.2.2⟩, fun q => ⟨q.1, h, q.2⟩⟩
theorem mtS_suf (hv : vldS s = true) {a : Rx} (i : Nat) : mtS vs a (s.extract (atN s i) s.size) = true ↔ val a = 0 ∧ mt (okV vs) a ((runes s).drop i) = true := by
  have h := (all_take hv i).2
  rw [mtS_iff, vldS, runes, rst_suf s i, List.map_drop, ← runes]
  exact ⟨fun h => ⟨h.1, h.2.2⟩, fun q => ⟨q.1, h, q.2⟩⟩
/-- whether one of the first n holds -/
def orN (p : Nat → Bool) : Nat → Bool
  | 0 => false
  | n + 1 => orN p n || p n
theorem orN_iff (p : Nat → Bool) : ∀ n, orN p n = true ↔ ∃ i, i < n ∧ p i = true
  | 0 => by simp [orN]
  | n + 1 => by
    rw [orN, Bool.or_eq_true, orN_iff p n]
    constructor
    · rintro (⟨i, h1, h2⟩ | h)
      · exact ⟨i, by omega, h2⟩
      · exact ⟨n, by omega, h⟩
    · rintro ⟨i, h1, h2⟩
      by_cases hi : i < n
      · exact .inl ⟨i, hi, h2⟩
      · have : i = n := by omega
        subst this; exact .inr h2
theorem alg_or (hv : vldS s = true) {a b : Rx} (ha : val a = 0) (hb : val b = 0) (hu : val (.mk 3 0 0 [] [a, b]) = 0) : mtS vs (.mk 3 0 0 [] [a, b]) s = (mtS vs a s || mtS vs b s) := by
  rw [Bool.eq_iff_iff, Bool.or_eq_true, mtS_iff, mtS_iff, mtS_iff, mt_spec _ _ (val_vns hu), mt_spec _ _ (val_vns ha), mt_spec _ _ (val_vns hb), L]
  dsimp only
  rw [if_neg (by decide), if_neg (by decide), if_pos rfl, LU, LU, LU]
  constructor
  · rintro ⟨_, _, h | h | h⟩
    · exact .inl ⟨ha, hv, h⟩
    · exact .inr ⟨hb, hv, h⟩
    · exact h.elim
  · rintro (⟨_, _, h⟩ | ⟨_, _, h⟩)
    · exact ⟨hu, hv, .inl h⟩
    · exact ⟨hu, hv, .inr (.inl h)⟩
def pCat (vs : Int → List Int) (s : ByteArray) (a b : Rx) (i : Nat) : Bool := mtS vs a (s.extract 0 (atN s i)) && mtS vs b (s.extract (atN s i) s.size)
def pStar (vs : Int → List Int) (s : ByteArray) (a k : Rx) (i : Nat) : Bool := decide (0 < atN s i) && mtS vs a (s.extract 0 (atN s i)) && mtS vs k (s.extract (atN s i) s.size)
theorem runes_len (s : ByteArray) : (runes s).length = (rst s 0).length := by rw [runes, List.length_map]
theorem alg_cat (hv : vldS s = true) {a b : Rx} (ha : val a = 0) (hb : val b = 0) (hc : val (.mk 2 0 0 [] [a, b]) = 0) : mtS vs (.mk 2 0 0 [] [a, b]) s = orN (pCat vs s a b) ((rst s 0).length + 1) := by
  rw [Bool.eq_iff_iff, orN_iff, mtS_iff, mt_spec _ _ (val_vns hc), L]
  dsimp only
  rw [if_neg (by decide), if_pos rfl, LC, LC, LC]
  constructor
  · rintro ⟨_, _, u, v, e, h1, h2⟩
    rw [cat_eps] at h2
    have hl := congrArg List.length e
    rw [List.length_append, runes_len] at hl
    refine ⟨u.length, by omega, ?_⟩
    rw [pCat, Bool.and_eq_true, mtS_pre hv, mtS_suf hv, e, List.take_left, List.drop_left, mt_spec _ _ (val_vns ha), mt_spec _ _ (val_vns hb)]
    exact ⟨⟨ha, h1⟩, hb, h2⟩
  · rintro ⟨i, _, h⟩
    rw [pCat, Bool.and_eq_true, mtS_pre hv, mtS_suf hv, mt_spec _ _ (val_vns ha), mt_spec _ _ (val_vns hb)] at h
    exact ⟨hc, hv, _, _, (List.take_append_drop i _).symm, h.1.2, (cat_eps _ _).2 h.2.2⟩
theorem alg_star (hv : vldS s = true) {a : Rx} (ha : val a = 0) (hk : val (rpt 0 (-1) a) = 0) : mtS vs (rpt 0 (-1) a) s = (decide (s.size = 0) || orN (pStar vs s a (rpt 0 (-1) a)) ((rst s 0).length + 1)) := by
  have hL : ∀ w, mt (okV vs) (rpt 0 (-1) a) w = true ↔ star (L (okV vs) a) w := fun w => by
    rw [rep_mt hk]
    exact ⟨fun ⟨k, _, _, h⟩ => ⟨k, h⟩, fun ⟨k, h⟩ => ⟨k, by omega, .inl rfl, h⟩⟩
  rw [Bool.eq_iff_iff, Bool.or_eq_true, decide_eq_true_eq, orN_iff, mtS_iff, hL]
  constructor
  · rintro ⟨_, _, h⟩
    rcases star_cases h with h | ⟨u, v, hu, e, h1, h2⟩
    · left
      have : (rst s 0).length = 0 := by rw [← runes_len, h]; rfl
      have := (rst_nil (s := s) (i := 0) (Nat.zero_le _)).1 (List.eq_nil_of_length_eq_zero this)
      exact this.symm
    · right
      have hl := congrArg List.length e
      rw [List.length_append, runes_len] at hl
      have hul : 0 < u.length := List.length_pos_iff.2 hu
      refine ⟨u.length, by omega, ?_⟩
      rw [pStar, Bool.and_eq_true, Bool.and_eq_true, decide_eq_true_eq, mtS_pre hv, mtS_suf hv, e, List.take_left, List.drop_left, mt_spec _ _ (val_vns ha), hL]
      exact ⟨⟨atN_pos s hul (by omega), ha, h1⟩, hk, h2⟩
  · rintro (h | ⟨i, _, h⟩)
    · have : runes s = [] := by rw [runes, rst_ge (by omega)]; rfl
      rw [this]
      exact ⟨hk, hv, star_nil _⟩
    · rw [pStar, Bool.and_eq_true, Bool.and_eq_true, mtS_pre hv, mtS_suf hv, mt_spec _ _ (val_vns ha), hL] at h
      refine ⟨hk, hv, ?_⟩
      have := star_cons h.1.2.2 h.2.2
      rwa [List.take_append_drop] at this
end
end Go.Rx
