/- A part of the proof: RX22. -/
import Derived.Test.YtjmbjgecfpggdaaDoorMX21
set_option linter.all false
set_option linter.unusedVariables false
set_option linter.unusedSimpArgs false
namespace Go.Rx
open Go
set_option linter.unusedVariables false
set_option linter.unusedSimpArgs false
theorem dcL_app {b : Nat} {r : List Nat} (h : okUn ⟨((dcL (b :: r)).1 : Nat), (dcL (b :: r)).2⟩ = true) (q : List Nat) : dcL ((b :: r) ++ q) = dcL (b :: r) := by
  have hw := dcL_w (l := b :: r) (by simp)
  obtain ⟨w, hw'⟩ : ∃ w, (dcL (b :: r)).2 = w + 1 := ⟨(dcL (b :: r)).2 - 1, by omega⟩
  rw [List.cons_append]
  show dc b (r ++ q) = dc b r
  change (dc b r).2 = w + 1 at hw'
  change okUn ⟨((dc b r).1 : Nat), (dc b r).2⟩ = true at h
  by_cases h0 : w = 0
  · subst h0
    have hd := dc_cases b r
    generalize hv : dc b r = v at hd h hw'
    cases hd with
    | one h1 => unfold dc; rw [if_pos h1]
    | two x r' hr hx hb h1 => simp at hw'
    | three x y r' hr hx hy hb h1 => simp at hw'
    | four x y z r' hr hx hy hz hb h1 => simp at hw'
    | bad h1 => simp [okUn] at h
  · have e : r ++ q = r.take w ++ (r.drop w ++ q) := by rw [← List.append_assoc, List.take_append_drop]
    rw [e]
    exact dc_take w hw' (by omega) _
theorem unL_app : ∀ (f : Nat) (l q : List Nat), l.length + q.length ≤ f → (unL f l).all okUn = true → unL f (l ++ q) = unL f l ++ unL f q
  | f, [], q, _, _ => by rw [unL_nil]; rfl
  | 0, b :: r, q, h, _ => by simp at h
  | f + 1, b :: r, q, h, hv => by
    have hw := dcL_w (l := b :: r) (by simp)
    have hlen : (b :: r).length = r.length + 1 := rfl
    rw [unL, List.all_cons, Bool.and_eq_true] at hv
    have ih := unL_app f ((b :: r).drop (dcL (b :: r)).2) q (by rw [List.length_drop]; omega) hv.2
    have ha := dcL_app hv.1 q
    have hf : unL (f + 1) q = unL f q := unL_fuel _ _ _ (by omega) (by omega)
    rw [hf]
    have e : (b :: r) ++ q = b :: (r ++ q) := rfl
    rw [e] at ha ⊢
    rw [unL, unL, ha, List.cons_append, ← ih]
    congr 2
    rw [← e, List.drop_append, show (dcL (b :: r)).2 - (b :: r).length = 0 by omega, List.drop_zero]
theorem rst_app (s t : ByteArray) (hv : vldS s = true) : rst (s ++ t) 0 = rst s 0 ++ rst t 0 := by
  have hls := btN_len s
  have hlt := btN_len t
  have hb : btN (s ++ t) = btN s ++ btN t := by
    rw [btN, btN, btN, ByteArray.data_append, Array.toList_append, List.map_append]
  have hl := btN_len (s ++ t)
  rw [hb, List.length_append] at hl
  have h1 : rst s 0 = unL (s.size + t.size) (btN s) := by rw [rst_unL s (s.size + t.size) 0 (by omega), List.drop_zero]
  have h2 : rst t 0 = unL (s.size + t.size) (btN t) := by rw [rst_unL t (s.size + t.size) 0 (by omega), List.drop_zero]
  rw [rst_unL (s ++ t) (s.size + t.size) 0 (by omega), List.drop_zero, hb, h1, h2]
  refine unL_app _ _ _ (by omega) ?_
  rw [← h1]; exact hv
theorem app_size (s t : ByteArray) : (s ++ t).size = s.size + t.size := by simp
end Go.Rx
