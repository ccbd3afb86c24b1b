/- A part of the proof: RX20. -/
import Derived.Test.YtjmbjgecfpggdaaDoorRx
set_option linter.all false
set_option linter.unusedVariables false
set_option linter.unusedSimpArgs false
namespace Go.Rx
set_option linter.unusedVariables false
set_option linter.unusedSimpArgs false
theorem pow_short {X : Lan} : ∀ (k : Nat) (w : List Int), pow X (k + 1) w → w.length < k + 1 → pow X k w
  | k, w, ⟨u, v, e, h1, h2⟩, hl => by
    by_cases hu : u = []
    · subst hu
      rw [List.nil_append] at e
      subst e; exact h2
    · have hul : 0 < u.length := List.length_pos_iff.2 hu
      have hlen := congrArg List.length e
      rw [List.length_append] at hlen
      cases k with
      | zero => omega
      | succ k => exact ⟨u, v, e, h1, pow_short k v h2 (by omega)⟩
theorem pow_least {X : Lan} {w : List Int} {m : Nat} (hm : m ≤ 16) (hw : w.length ≤ 16) : ∀ (k : Nat), m ≤ k → pow X k w → ∃ k', m ≤ k' ∧ k' ≤ 16 ∧ pow X k' w
  | 0, h, hp => ⟨0, h, by omega, hp⟩
  | k + 1, h, hp => by
    by_cases hk : k + 1 ≤ 16
    · exact ⟨k + 1, h, hk, hp⟩
    · exact pow_least hm hw k (by omega) (pow_short k w hp (by omega))
abbrev rpt (mn mx : Int) (e : Rx) : Rx := .mk 4 mn mx [] [e]
theorem rep_mt {ok : Int → List (Int × Int) → Bool} {e : Rx} {mn mx : Int} (h : val (rpt mn mx e) = 0) (w : List Int) : mt ok (rpt mn mx e) w = true ↔ ∃ k : Nat, mn ≤ k ∧ (mx = -1 ∨ (k : Int) ≤ mx) ∧ pow (L ok e) k w := by
  rw [mt_spec ok _ (val_vns h), L]
  dsimp only
  rw [if_neg (by decide), if_neg (by decide), if_neg (by decide), L1]
theorem mtS_iff (vs : Int → List Int) (e : Rx) (s : ByteArray) : mtS vs e s = true ↔ val e = 0 ∧ vldS s = true ∧ mt (okV vs) e (runes s) = true := by
  rw [mtS, Bool.and_eq_true, Bool.and_eq_true, decide_eq_true_eq, and_assoc]
/-- whether some number of copies from a least one on, below a limit, matches -/
def anyC (vs : Int → List Int) (e : Rx) (s : ByteArray) (least : Nat) : Nat → Bool
  | 0 => false
  | n + 1 => anyC vs e s least n || (decide (least ≤ n) && mtS vs (rpt n n e) s)
theorem anyC_none (vs : Int → List Int) (e : Rx) (s : ByteArray) (least : Nat) : ∀ n, n ≤ least → anyC vs e s least n = false
  | 0, _ => rfl
  | n + 1, h => by rw [anyC, anyC_none vs e s least n (by omega), decide_eq_false (by omega)]; rfl
theorem anyC_iff (vs : Int → List Int) (e : Rx) (s : ByteArray) (least : Nat) : ∀ n, (∀ j : Nat, least ≤ j → j < n → val (rpt j j e) = 0) → (anyC vs e s least n = true ↔ ∃ j : Nat, least ≤ j ∧ j < n ∧ vldS s = true ∧ pow (L (okV vs) e) j (runes s))
  | 0, _ => by simp [anyC]
  | n + 1, h => by
    rw [anyC, Bool.or_eq_true, anyC_iff vs e s least n (fun j h1 h2 => h j h1 (by omega)), Bool.and_eq_true, decide_eq_true_eq, mtS_iff]
    constructor
    · rintro (⟨j, h1, h2, h3, h4⟩ | ⟨h1, h2, h3, h4⟩)
      · exact ⟨j, h1, by omega, h3, h4⟩
      · rw [rep_mt h2] at h4
        obtain ⟨k, k1, k2, k3⟩ := h4
        have hk : k = n := by omega
        subst hk
        exact ⟨k, h1, by omega, h3, k3⟩
    · rintro ⟨j, h1, h2, h3, h4⟩
      by_cases hj : j < n
      · exact .inl ⟨j, h1, hj, h3, h4⟩
      · have hj : j = n := by omega
        subst hj
        have hv := h j h1 (by omega)
        exact .inr ⟨h1, hv, h3, (rep_mt hv _).2 ⟨j, Int.le_refl _, .inr (Int.le_refl _), h4⟩⟩
/-- a counted repetition is the union of the single ones -/
theorem counts_one (vs : Int → List Int) (e : Rx) (s : ByteArray) {least n : Nat} (hln : least ≤ n) (h : ∀ j : Nat, least ≤ j → j ≤ n → val (rpt j j e) = 0) (hy : val (rpt least n e) = 0) : mtS vs (rpt least n e) s = anyC vs e s least (n + 1) := by
  rw [Bool.eq_iff_iff, mtS_iff, anyC_iff vs e s least (n + 1) (fun j h1 h2 => h j h1 (by omega)), rep_mt hy]
  constructor
  · rintro ⟨_, h2, k, k1, k2, k3⟩
    exact ⟨k, by omega, by omega, h2, k3⟩
  · rintro ⟨j, h1, h2, h3, h4⟩
    exact ⟨hy, h3, j, by omega, .inr (by omega), h4⟩
theorem val_rpt {e : Rx} {mn mx mn' mx' : Int} (h : val (rpt mn mx e) = 0) (h0 : 0 ≤ mn') (h1 : mn' ≤ 16) (h2 : mx' = -1 ∨ (mn' ≤ mx' ∧ mx' ≤ 16)) (hp : ∀ p : Int, 0 ≤ p → rep mn' mx' p ≤ rep mn mx p) : val (rpt mn' mx' e) = 0 := by
  have hv := val_vns h
  rw [val] at h
  by_cases a : 200 < sz (rpt mn mx e) ∨ 40 < dp (rpt mn mx e)
  · rw [if_pos a] at h; simp at h
  rw [if_neg a, if_neg (by rw [hv]; decide)] at h
  by_cases b : 64 < pn (rpt mn mx e)
  · rw [if_pos b] at h; simp at h
  rw [vns, vnsL, vnsL, Bool.and_true, Bool.and_eq_true] at hv
  have hpn := pn_nn.1 e hv.2
  have hs : sz (rpt mn' mx' e) = sz (rpt mn mx e) := by rw [sz, sz]
  have hd : dp (rpt mn' mx' e) = dp (rpt mn mx e) := by rw [dp, dp]
  have hvn : vns (rpt mn' mx' e) = true := by
    rw [vns, vnsL, vnsL, Bool.and_true, Bool.and_eq_true]
    refine ⟨?_, hv.2⟩
    rw [vn, if_neg (by decide), if_neg (by decide), if_neg (by decide), if_pos rfl]
    simp only [List.length_nil, List.length_cons, Bool.and_eq_true, Bool.or_eq_true, decide_eq_true_eq]
    exact ⟨⟨⟨⟨trivial, trivial⟩, h0⟩, h1⟩, h2⟩
  have hpp : pn (rpt mn' mx' e) ≤ pn (rpt mn mx e) := by
    rw [pn, if_neg (by decide), if_pos rfl, pn, if_neg (by decide), if_pos rfl, pnL, pnL]
    exact hp _ (by omega)
  rw [val, hs, hd, if_neg a, if_neg (by rw [hvn]; decide), if_neg (by omega)]
/-- without an upper limit: some number of copies, up to 16 -/
theorem counts_all (vs : Int → List Int) (e : Rx) (s : ByteArray) {least : Nat} (hl : least ≤ 3) (hs : s.size ≤ 8) (h : ∀ j : Nat, least ≤ j → j ≤ 16 → val (rpt j j e) = 0) : mtS vs (rpt least (-1) e) s = anyC vs e s least 17 := by
  have hz : val (rpt least (-1) e) = 0 := by
    refine val_rpt (h 16 (by omega) (by omega)) (by omega) (by omega) (.inl rfl) fun p hp => ?_
    rw [rep, if_pos rfl, rep, if_neg (by decide)]
    exact Int.mul_le_mul_of_nonneg_left (by omega) hp
  have hw : (runes s).length ≤ 16 := by
    have := rst_len s (s.size - 0) 0 (Nat.le_refl _)
    rw [runes, List.length_map]; omega
  rw [Bool.eq_iff_iff, mtS_iff, anyC_iff vs e s least 17 (fun j h1 h2 => h j h1 (by omega)), rep_mt hz]
  constructor
  · rintro ⟨_, h2, k, k1, _, k3⟩
    obtain ⟨k', a1, a2, a3⟩ := pow_least (m := least) (by omega) hw k (by omega) k3
    exact ⟨k', a1, by omega, h2, a3⟩
  · rintro ⟨j, h1, h2, h3, h4⟩
    exact ⟨hz, h3, j, by omega, .inl rfl, h4⟩
end Go.Rx
