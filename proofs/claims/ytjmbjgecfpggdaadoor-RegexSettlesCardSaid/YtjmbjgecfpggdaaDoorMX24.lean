/- A part of the proof: RX24. -/
import Derived.Test.YtjmbjgecfpggdaaDoorRx
import Derived.Test.YtjmbjgecfpggdaaDoorMX23
set_option linter.all false
set_option linter.unusedVariables false
set_option linter.unusedSimpArgs false
namespace Go.Rx
open Go
set_option linter.unusedVariables false
set_option linter.unusedSimpArgs false
theorem pNum_er {least : Int} {l a : List U} {e : Int} (h : pNum least l = .err a e) : 0 < e := by
  cases l with
  | nil => simp [pNum] at h; omega
  | cons c l =>
    rw [pNum] at h
    repeat' split at h
    all_goals simp at h
    all_goals omega
theorem pEnd_er {lo hi : Int} {l a : List U} {e : Int} (h : pEnd lo hi l = .err a e) : 0 < e := by
  rw [pEnd] at h
  split at h <;> simp at h
  omega
theorem pBnd_er {l a : List U} {e : Int} (h : pBnd l = .err a e) : 0 < e := by
  rw [pBnd] at h
  split at h
  · simp at h
  · rename_i h1; simp at h; rw [← h.2]; exact pNum_er h1
  · split at h
    · split at h
      · exact pEnd_er h
      · split at h
        · simp at h
        · rename_i h1; simp at h; rw [← h.2]; exact pNum_er h1
        · exact pEnd_er h
    · exact pEnd_er h
theorem pChr_er {sp : List Int} {l a : List U} {e : Int} (h : pChr sp l = .err a e) : 0 < e := by
  cases l with
  | nil => simp [pChr] at h; omega
  | cons c l =>
    rw [pChr_cons] at h
    repeat' split at h
    all_goals simp at h
    all_goals omega
theorem pRng_er {l a : List U} {e : Int} (h : pRng l = .err a e) : 0 < e := by
  rw [pRng] at h
  split at h
  · simp at h
  · rename_i h1; simp at h; rw [← h.2]; exact pChr_er h1
  · split at h
    · split at h
      · simp at h
      · rename_i h1; simp at h; rw [← h.2]; exact pChr_er h1
      · split at h <;> simp at h
        omega
    · simp at h
theorem pRngs_er : ∀ (n : Nat) (acc : List (Int × Int)) (l a : List U) (e : Int), pRngs n acc l = .err a e → 0 < e
  | 0, _, _, _, _, h => by simp [pRngs] at h
  | n + 1, acc, l, a, e, h => by
    rw [pRngs] at h
    split at h
    · simp at h
    · split at h
      · simp at h
      · rename_i h1; simp at h; rw [← h.2]; exact pRng_er h1
      · exact pRngs_er n _ _ _ _ h
theorem pCls_er {n : Nat} {l a : List U} {e : Int} (h : pCls n l = .err a e) : 0 < e := by
  rw [pCls] at h
  split at h
  · split at h
    · simp at h
    · rename_i h1; simp at h; rw [← h.2]; exact pRngs_er _ _ _ _ _ h1
    · split at h <;> simp at h
      omega
  · split at h
    · simp at h
    · rename_i h1; simp at h; rw [← h.2]; exact pRngs_er _ _ _ _ _ h1
    · simp at h
theorem p_er : ∀ n : Nat, (∀ acc l a e, pU n acc l = .err a e → 0 < e) ∧ (∀ acc l a e, pC n acc l = .err a e → 0 < e) ∧ (∀ l a e, pR n l = .err a e → 0 < e) ∧ (∀ x l a e, pQ n x l = .err a e → 0 < e) ∧ (∀ l a e, pA n l = .err a e → 0 < e)
  | 0 => ⟨fun _ _ _ _ h => by simp [pU] at h, fun _ _ _ _ h => by simp [pC] at h, fun _ _ _ h => by simp [pR] at h, fun _ _ _ _ h => by simp [pQ] at h, fun _ _ _ h => by simp [pA] at h⟩
  | n + 1 => by
    obtain ⟨iU, iC, iR, iQ, iA⟩ := p_er n
    refine ⟨fun acc l a e h => ?_, fun acc l a e h => ?_, fun l a e h => ?_, fun x l a e h => ?_, fun l a e h => ?_⟩
    · rw [pU] at h
      split at h
      · simp at h
      · rename_i h1; simp at h; rw [← h.2]; exact iC _ _ _ _ h1
      · split at h
        · exact iU _ _ _ _ h
        · simp at h
    · rw [pC] at h
      split at h
      · simp at h
      · split at h
        · simp at h
        · rename_i h1; simp at h; rw [← h.2]; exact iR _ _ _ h1
        · exact iC _ _ _ _ h
    · rw [pR] at h
      split at h
      · simp at h
      · rename_i h1; simp at h; rw [← h.2]; exact iA _ _ _ h1
      · exact iQ _ _ _ _ h
    · rw [pQ] at h
      split at h
      · exact iQ _ _ _ _ h
      split at h
      · exact iQ _ _ _ _ h
      split at h
      · exact iQ _ _ _ _ h
      split at h
      · split at h
        · simp at h
        · rename_i h1; simp at h; rw [← h.2]; exact pBnd_er h1
        · exact iQ _ _ _ _ h
      · simp at h
    · rw [pA] at h
      split at h
      · split at h
        · simp at h
        · rename_i h1; simp at h; rw [← h.2]; exact iU _ _ _ _ h1
        · split at h <;> simp at h
          omega
      split at h
      · simp at h
      split at h
      · exact pCls_er h
      · split at h
        · simp at h
        · rename_i h1; simp at h; rw [← h.2]; exact pChr_er h1
        · simp at h
/-- what is read without an error is valid -/
theorem parseU_ok {m : Nat} {l : List U} (h : (parseU m l).2.2 = 0) : val (parseU m l).1 = 0 := by
  rw [parseU] at h ⊢
  split at h
  · rename_i h1; exact absurd h1 ((p_no _).1 [] l (Nat.le_refl _))
  · rename_i h1
    have := (p_er _).1 _ _ _ _ h1
    simp only at h; omega
  · rename_i e h1
    split at h
    · simp at h
    · rename_i hv
      rw [if_neg hv]
      exact Classical.not_not.1 hv
  · simp at h
theorem parseU_tx {e : Rx} (hv : val e = 0) (hw : wrt e = true) (m : Nat) (w : Int) (h0 : w = 0) (hvn : vns e = true) : vldS (txE (fm e w)) = true ∧ parseU m (rst (txE (fm e w)) 0) = (e, 0, 0) := by
  subst h0
  have hcv := fm_v.1 e hvn hw 0
  exact ⟨vld_txE hcv, by rw [rst_txE hcv]; exact parse_back e hv hw m⟩
end Go.Rx
