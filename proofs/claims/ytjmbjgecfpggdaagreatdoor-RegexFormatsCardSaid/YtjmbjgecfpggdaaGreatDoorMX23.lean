/- A part of the proof: RX23. -/
import Derived.Test.YtjmbjgecfpggdaaGreatDoorRx
set_option linter.all false
set_option linter.unusedVariables false
set_option linter.unusedSimpArgs false
namespace Go.Rx
open Go
/-- the bytes of code points -/
def txN (l : List Int) : List Nat := l.flatMap fun c => ecL (zav c)
def txE (l : List Int) : ByteArray := zqp (txN l)
theorem zs2 (c : Int) : ∀ x ∈ ecL (zav c), x < 256 := by
 rw [← z6q]; exact zoo _
theorem z8g (l : List Int) : btN (txE l) = txN l := zhy fun x hx => by
 rw [txN, List.mem_flatMap] at hx
 obtain ⟨c, _, hx⟩ := hx
 exact zs2 c x hx
theorem zri (s t : ByteArray) : btN (s ++ t) = btN s ++ btN t := by
 rw [btN, btN, btN, ByteArray.data_append, Array.toList_append, List.map_append]
theorem z1q (a b : List Int) : txE (a ++ b) = txE a ++ txE b := zgc (by
 rw [zri, z8g, z8g, z8g, txN, List.flatMap_append]; rfl)
theorem z6b (c : Int) : txE [c] = Utf8.encode c := zgc (by rw [z8g, z6q, txN]; simp)
theorem zjz (k : Nat) : 1 ≤ (ecL k).length ∧ (ecL k).length ≤ 4 := by
 unfold ecL; repeat' split
 all_goals simp
theorem zjq : ∀ l : List Int, l.length ≤ (txN l).length ∧ (txN l).length ≤ 4 * l.length
 | [] => by simp [txN]
 | c :: l => by
  have ih := zjq l
  have := zjz (zav c)
  have e : txN (c :: l) = ecL (zav c) ++ txN l := by rw [txN, List.flatMap_cons]; rfl
  rw [e, List.length_append, List.length_cons]; omega
theorem z2m (l : List Int) : l.length ≤ (txE l).size ∧ (txE l).size ≤ 4 * l.length := by
 rw [← z4z, z8g]; exact zjq l
/-- how many bytes a code point has -/
def zE (c : Int) : Nat := (ecL (zav c)).length
theorem zkt : ∀ (l : List Int) (f : Nat), (txN l).length ≤ f → (∀ c ∈ l, Utf8.valid c = true) → unL f (txN l) = mkU zE l
 | [], f, _, _ => by rw [show txN [] = [] from rfl, zgt]; rfl
 | c :: l, f, h, hv => by
  have hc := hv c (by simp)
  have hl := zjz (zav c)
  have e : txN (c :: l) = ecL (zav c) ++ txN l := by rw [txN, List.flatMap_cons]; rfl
  rw [e, List.length_append] at h
  obtain ⟨f, rfl⟩ : ∃ g, f = g + 1 := ⟨f - 1, by omega⟩
  have ih := zkt l f (by omega) (fun x hx => hv x (by simp [hx]))
  have hd := zk2 (z7l c) (txN l)
  rw [e]
  cases hz : ecL (zav c) with
  | nil => exact absurd hz (zlf _)
  | cons b r =>
   rw [hz] at hd
   have e2 : (b :: r) ++ txN l = b :: (r ++ txN l) := rfl
   rw [e2] at hd ⊢
   rw [unL, hd]
   simp only
   rw [← e2, List.drop_left, ih, zo0, zE, hz, zbr hc]
theorem zlq {l : List Int} (hv : ∀ c ∈ l, Utf8.valid c = true) : rst (txE l) 0 = mkU zE l := by
 rw [zgf _ (txE l).size 0 (by omega), List.drop_zero, z8g]
 exact zkt l _ (by rw [← z4z, z8g]; exact Nat.le_refl _) hv
theorem zqd {l : List Int} (hv : ∀ c ∈ l, Utf8.valid c = true) : zr0 (txE l) = true := by
 rw [zr0, zlq hv, mkU, List.all_map, List.all_eq_true]
 intro c _
 simp only [Function.comp, zrx]
 by_cases h : c = 65533
 · subst h; decide
 · simp [h]
/-! how long -/
theorem zb3 : ∀ (l : List (Int × Int)) (a : Int), a ≤ 1114113 → z6v a l = true → 2 * (l.length : Int) ≤ 1114113 - a
 | [], a, ha, _ => by simp; omega
 | r :: l, a, ha, h => by
  rw [z6v, Bool.and_eq_true, Bool.and_eq_true, Bool.and_eq_true, decide_eq_true_eq, decide_eq_true_eq, decide_eq_true_eq] at h
  obtain ⟨⟨⟨h1, h2⟩, h3⟩, h4⟩ := h
  have ih := zb3 l (r.2 + 2) (by omega) h4
  rw [List.length_cons]; omega
theorem zdx {l : List (Int × Int)} (h : za3 l = true) : l.length ≤ 557056 := by
 rw [za3, Bool.and_eq_true] at h
 have := zb3 l 0 (by decide) h.1
 omega
theorem z8i (sp : List Int) (c : Int) : (quo sp c).length ≤ 2 := by unfold quo; split <;> simp
theorem zq3 (r : Rg) : (z4q r).length ≤ 5 := by
 have h1 := z8i spC r.1
 have h2 := z8i spC r.2
 rw [z4q, List.length_append, List.length_append]
 split <;> split <;> simp <;> omega
theorem z9u : ∀ l : List Rg, (l.flatMap z4q).length ≤ 5 * l.length
 | [] => by simp
 | r :: l => by
  have := z9u l
  have := zq3 r
  rw [List.flatMap_cons, List.length_append, List.length_cons]; omega
theorem zg3 (l : List Rg) : (z7w l).length ≤ 2 + 5 * l.length := by
 cases l with
 | nil => simp [z7w]
 | cons r l =>
  have h1 := z9u (r :: l)
  have h2 := z8i spA r.1
  rw [z7w]
  split
  · simp only [List.length_cons, List.length_nil]; omega
  · split
    · simp only [List.length_cons]; omega
    · rw [List.length_append, List.length_append]; simp only [List.length_cons, List.length_nil] at *; omega
theorem zma (n : Int) : (dgs n).length ≤ 2 := by unfold dgs; split <;> simp
theorem zm4 (lo hi : Int) : (z6a lo hi).length ≤ 7 := by
 have h1 := zma lo
 have h2 := zma hi
 unfold z6a
 repeat' split
 all_goals simp
 all_goals omega
theorem zl8 (b : Bool) (l : List Int) : (brk b l).length ≤ l.length + 2 := by
 unfold brk; split <;> simp
theorem zbz : (∀ e : Rx, vns e = true → ∀ w, (fm e w).length + 20 ≤ 3000000 * sz e) ∧
  ∀ l : List Rx, z7t l = true → (fmC l).length ≤ 3000000 * szL l ∧ (fmU l).length ≤ 3000000 * szL l ∧ (fmV l).length ≤ 3000000 * szL l ∧ (fm1 l).length ≤ 3000000 * szL l := by
 refine Rx.ind (fun op mn mx rs ks ih hv w => ?_) (fun _ => by simp [fmC, fmU, fmV, fm1]) (fun k ks hk ih hv => ?_)
 · rw [vns, Bool.and_eq_true] at hv
   obtain ⟨i1, i2, i3, i4⟩ := ih hv.2
   have h := hv.1
   rw [sz, fm]
   split
   · rename_i h1
     rw [vn, if_pos h1, Bool.and_eq_true] at h
     have := zdx h.2
     have := zg3 rs
     omega
   · split
     · have := zl8 (decide (w = 4)) (fmC ks); omega
     · split
       · have := zl8 (decide (w = 4) || decide (w = 2)) (fmU ks); omega
       · have := zl8 (decide (w = 4)) (fm1 ks ++ z6a mn mx)
         have := zm4 mn mx
         rw [List.length_append] at *; omega
 · rw [z7t, Bool.and_eq_true] at hv
   obtain ⟨i1, i2, i3, i4⟩ := ih hv.2
   have h2 := hk hv.1 2
   have h3 := hk hv.1 3
   have h4 := hk hv.1 4
   rw [fmC, fmU, fmV, fm1, szL]
   simp only [List.length_append, List.length_cons, List.length_nil]
   omega
/-! every code point of a text can be written -/
theorem zrm {sp : List Int} {c : Int} (h : Utf8.valid c = true) : ∀ x ∈ quo sp c, Utf8.valid x = true := by
 unfold quo
 split
 · intro x hx
   simp only [List.mem_cons, List.not_mem_nil, or_false] at hx
   rcases hx with rfl | rfl
   · decide
   · exact h
 · intro x hx
   simp only [List.mem_cons, List.not_mem_nil, or_false] at hx
   subst hx; exact h
theorem zf3 : ∀ {l : List (Int × Int)} {a : Int}, 0 ≤ a → z6v a l = true → ∀ r ∈ l, 0 ≤ r.1 ∧ r.1 ≤ r.2 ∧ r.2 ≤ 1114111
 | [], a, _, _, r, hr => by simp at hr
 | x :: l, a, ha, h, r, hr => by
  rw [z6v, Bool.and_eq_true, Bool.and_eq_true, Bool.and_eq_true, decide_eq_true_eq, decide_eq_true_eq, decide_eq_true_eq] at h
  obtain ⟨⟨⟨h1, h2⟩, h3⟩, h4⟩ := h
  rw [List.mem_cons] at hr
  rcases hr with rfl | hr
  · omega
  · exact zf3 (by omega) h4 r hr
theorem zde {l : List (Int × Int)} (h : za3 l = true) : ∀ r ∈ l, 0 ≤ r.1 ∧ r.1 ≤ r.2 ∧ r.2 ≤ 1114111 := by
 rw [za3, Bool.and_eq_true] at h
 exact zf3 (Int.le_refl _) h.1
theorem zts {r : Rg} (h : 0 ≤ r.1 ∧ r.1 ≤ r.2 ∧ r.2 ≤ 1114111) (ht : txl r = false) : Utf8.valid r.1 = true ∧ Utf8.valid r.2 = true := by
 rw [txl, Bool.and_eq_false_iff, Bool.and_eq_false_iff, Bool.or_eq_false_iff, decide_eq_false_iff_not, decide_eq_false_iff_not, decide_eq_false_iff_not, decide_eq_false_iff_not] at ht
 rw [z2z, z2z]; omega
theorem ztj {r : Rg} (h : 0 ≤ r.1 ∧ r.1 ≤ r.2 ∧ r.2 ≤ 1114111) (ht : txl r = false) : ∀ x ∈ z4q r, Utf8.valid x = true := by
 obtain ⟨v1, v2⟩ := zts h ht
 intro x hx
 rw [z4q, List.mem_append, List.mem_append] at hx
 rcases hx with (hx | hx) | hx
 · exact zrm v1 x hx
 · split at hx
   · simp only [List.mem_cons, List.not_mem_nil, or_false] at hx; subst hx; decide
   · simp at hx
 · split at hx
   · exact zrm v2 x hx
   · simp at hx
theorem zso {l : List Rg} (h : za3 l = true) (ht : l.any txl = false) : ∀ x ∈ z7w l, Utf8.valid x = true := by
 have hm := zde h
 rw [List.any_eq_false] at ht
 cases l with
 | nil => intro x hx; simp [z7w] at hx
 | cons r l =>
  intro x hx
  rw [z7w] at hx
  split at hx
  · simp only [List.mem_cons, List.not_mem_nil, or_false] at hx; subst hx; decide
  · split at hx
    · exact zrm (zts (hm r (by simp)) (by simpa using ht r (by simp))).1 x hx
    · rw [List.mem_append, List.mem_append] at hx
      rcases hx with (hx | hx) | hx
      · simp only [List.mem_cons, List.not_mem_nil, or_false] at hx; subst hx; decide
      · rw [List.mem_flatMap] at hx
        obtain ⟨q, hq, hx⟩ := hx
        exact ztj (hm q hq) (by simpa using ht q hq) x hx
      · simp only [List.mem_cons, List.not_mem_nil, or_false] at hx; subst hx; decide
theorem zsc {n : Int} (h0 : 0 ≤ n) (h1 : n ≤ 16) : ∀ x ∈ dgs n, Utf8.valid x = true := by
 intro x hx
 unfold dgs at hx
 split at hx
 · simp only [List.mem_cons, List.not_mem_nil, or_false] at hx; subst hx; rw [z2z]; omega
 · simp only [List.mem_cons, List.not_mem_nil, or_false] at hx
   rw [z2z]; omega
theorem zth {lo hi : Int} (h0 : 0 ≤ lo) (h1 : lo ≤ 16) (h2 : hi = -1 ∨ lo ≤ hi ∧ hi ≤ 16) : ∀ x ∈ z6a lo hi, Utf8.valid x = true := by
 have d1 := zsc h0 h1
 intro x hx
 unfold z6a at hx
 have c : ∀ y : Int, (y = 42 ∨ y = 43 ∨ y = 63 ∨ y = 44 ∨ y = 123 ∨ y = 125) → Utf8.valid y = true := fun y h => by rw [z2z]; omega
 split at hx
 · simp only [List.mem_cons, List.not_mem_nil, or_false] at hx; exact c x (by omega)
 split at hx
 · simp only [List.mem_cons, List.not_mem_nil, or_false] at hx; exact c x (by omega)
 split at hx
 · simp only [List.mem_cons, List.not_mem_nil, or_false] at hx; exact c x (by omega)
 split at hx
 · simp only [List.mem_append, List.mem_cons, List.not_mem_nil, or_false] at hx
   rcases hx with (hx | hx) | hx
   · exact c x (by omega)
   · exact d1 x hx
   · exact c x (by omega)
 split at hx
 · simp only [List.mem_append, List.mem_cons, List.not_mem_nil, or_false] at hx
   rcases hx with (hx | hx) | hx
   · exact c x (by omega)
   · exact d1 x hx
   · exact c x (by omega)
 · have d2 := zsc (n := hi) (by omega) (by omega)
   simp only [List.mem_append, List.mem_cons, List.not_mem_nil, or_false] at hx
   rcases hx with (((hx | hx) | hx) | hx) | hx
   · exact c x (by omega)
   · exact d1 x hx
   · exact c x (by omega)
   · exact d2 x hx
   · exact c x (by omega)
theorem zq8 {b : Bool} {l : List Int} (h : ∀ x ∈ l, Utf8.valid x = true) : ∀ x ∈ brk b l, Utf8.valid x = true := by
 intro x hx
 unfold brk at hx
 split at hx
 · simp only [List.mem_append, List.mem_cons, List.not_mem_nil, or_false] at hx
   rcases hx with (hx | hx) | hx
   · subst hx; decide
   · exact h x hx
   · subst hx; decide
 · exact h x hx
theorem zlw {a b : List Int} (h : ∀ x ∈ a, Utf8.valid x = true) (k : ∀ x ∈ b, Utf8.valid x = true) : ∀ x ∈ a ++ b, Utf8.valid x = true := fun x hx => (List.mem_append.1 hx).elim (h x) (k x)
theorem zwf : (∀ e : Rx, vns e = true → wrt e = true → ∀ w, ∀ x ∈ fm e w, Utf8.valid x = true) ∧
  ∀ l : List Rx, z7t l = true → zd0 l = true → (∀ x ∈ fmC l, Utf8.valid x = true) ∧ (∀ x ∈ fmU l, Utf8.valid x = true) ∧ (∀ x ∈ fmV l, Utf8.valid x = true) ∧ (∀ x ∈ fm1 l, Utf8.valid x = true) := by
 refine Rx.ind (fun op mn mx rs ks ih hv hw w => ?_) (fun _ _ => by simp [fmC, fmU, fmV, fm1]) (fun k ks hk ih hv hw => ?_)
 · rw [vns, Bool.and_eq_true] at hv
   rw [wrt, Bool.and_eq_true, Bool.not_eq_true'] at hw
   obtain ⟨i1, i2, i3, i4⟩ := ih hv.2 hw.2
   have h := hv.1
   rw [fm]
   split
   · rename_i h1
     rw [vn, if_pos h1, Bool.and_eq_true] at h
     exact zso h.2 hw.1
   · rename_i n1
     split
     · exact zq8 i1
     · rename_i n2
       split
       · exact zq8 i2
       · rename_i n3
         rw [vn, if_neg n1, if_neg n2, if_neg n3] at h
         split at h
         · simp only [Bool.and_eq_true, Bool.or_eq_true, decide_eq_true_eq] at h
           exact zq8 (zlw i4 (zth h.1.1.2 h.1.2 h.2))
         · cases h
 · rw [z7t, Bool.and_eq_true] at hv
   rw [zd0, Bool.and_eq_true] at hw
   obtain ⟨i1, i2, i3, i4⟩ := ih hv.2 hw.2
   rw [fmC, fmU, fmV, fm1]
   refine ⟨zlw (hk hv.1 hw.1 2) i1, zlw (hk hv.1 hw.1 3) i3, zlw ?_ (zlw (hk hv.1 hw.1 3) i3), hk hv.1 hw.1 4⟩
   intro x hx
   simp only [List.mem_cons, List.not_mem_nil, or_false] at hx; subst hx; decide
end Go.Rx
