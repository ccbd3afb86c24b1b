/- A part of the proof: RX25. -/
import Derived.Test.YtjmbjgecfpggdaaGreatDoorRx
import Derived.Test.YtjmbjgecfpggdaaGreatDoorMX23
set_option linter.all false
set_option linter.unusedVariables false
set_option linter.unusedSimpArgs false
namespace Go.Rx
def vR (l : List Rg) : Prop := ∀ r ∈ l, 0 ≤ r.1 ∧ r.1 ≤ r.2 ∧ r.2 ≤ 1114111
def nf1 (a f : Int) (x : Rg) : Int := if a ≤ x.2 ∧ max x.1 a < f then max x.1 a else f
def nfF (a : Int) (l : List Rg) : Int := l.foldl (nf1 a) 1114112
def nt1 (q : Int × Bool) (x : Rg) : Int × Bool := if x.1 ≤ q.1 + 1 ∧ q.1 < x.2 then (x.2, true) else q
def nfT (l : List Rg) (t : Int) : Int × Bool := l.foldl nt1 (t, false)
theorem zom (a : Int) : ∀ (l : List Rg) (f0 : Int), vR l → l.foldl (nf1 a) f0 ≤ f0 ∧ (l.foldl (nf1 a) f0 = f0 ∨ (a ≤ l.foldl (nf1 a) f0 ∧ inS l (l.foldl (nf1 a) f0))) ∧ ∀ x ∈ l, a ≤ x.2 → l.foldl (nf1 a) f0 ≤ max x.1 a
 | [], f0, _ => ⟨Int.le_refl _, .inl rfl, by simp⟩
 | y :: l, f0, h => by
  have hy := h y (by simp)
  obtain ⟨h1, h2, h3⟩ := zom a l (nf1 a f0 y) (fun r hr => h r (by simp [hr]))
  rw [List.foldl_cons]
  generalize l.foldl (nf1 a) (nf1 a f0 y) = F at *
  have hn : nf1 a f0 y ≤ f0 ∧ (nf1 a f0 y = f0 ∨ (a ≤ nf1 a f0 y ∧ y.1 ≤ nf1 a f0 y ∧ nf1 a f0 y ≤ y.2)) ∧ (a ≤ y.2 → nf1 a f0 y ≤ max y.1 a) := by
   unfold nf1; split <;> omega
  refine ⟨by omega, ?_, ?_⟩
  · rcases h2 with h2 | ⟨h2, x, hx, h4⟩
    · rcases hn.2.1 with h5 | h5
      · left; omega
      · right; rw [h2]; exact ⟨h5.1, y, by simp, h5.2⟩
    · right; exact ⟨h2, x, by simp [hx], h4⟩
  · intro x hx hax
    rw [List.mem_cons] at hx
    rcases hx with rfl | hx
    · have := hn.2.2 hax; omega
    · exact h3 x hx hax
theorem zny (a : Int) {l : List Rg} (h : vR l) : (nfF a l = 1114112 ∨ (a ≤ nfF a l ∧ inS l (nfF a l) ∧ nfF a l ≤ 1114111)) ∧ ∀ c, a ≤ c → inS l c → nfF a l ≤ c := by
 obtain ⟨h1, h2, h3⟩ := zom a l 1114112 h
 change nfF a l ≤ _ at h1
 constructor
 · rcases h2 with h2 | ⟨h4, x, hx, h5, h6⟩
   · exact .inl h2
   · have := h x hx
     have h6 : nfF a l ≤ x.2 := h6
     exact .inr ⟨h4, ⟨x, hx, h5, h6⟩, by omega⟩
 · rintro c hc ⟨x, hx, h4, h5⟩
   have := h3 x hx (by omega)
   change nfF a l ≤ _ at this
   omega
theorem zm5 : ∀ (l : List Rg) (t : Int) (b : Bool), vR l → t ≤ 1114111 → t ≤ (l.foldl nt1 (t, b)).1 ∧ (l.foldl nt1 (t, b)).1 ≤ 1114111 ∧ (∀ c, t < c → c ≤ (l.foldl nt1 (t, b)).1 → inS l c) ∧
  ((l.foldl nt1 (t, b)).2 = false → b = false ∧ (l.foldl nt1 (t, b)).1 = t ∧ ∀ x ∈ l, ¬ (x.1 ≤ t + 1 ∧ t < x.2)) ∧ ((l.foldl nt1 (t, b)).2 = true → b = true ∨ t < (l.foldl nt1 (t, b)).1)
 | [], t, b, _, ht => by simp; exact ⟨ht, fun c h1 h2 => by omega⟩
 | y :: l, t, b, h, ht => by
  have hy := h y (by simp)
  have hl : vR l := fun r hr => h r (by simp [hr])
  rw [List.foldl_cons]
  by_cases hc : y.1 ≤ t + 1 ∧ t < y.2
  · rw [show nt1 (t, b) y = (y.2, true) by rw [nt1, if_pos hc]]
    obtain ⟨h1, h2, h3, h4, h5⟩ := zm5 l y.2 true hl hy.2.2
    refine ⟨by omega, h2, fun c c1 c2 => ?_, fun h6 => (by have := (h4 h6).1; cases this), fun _ => .inr (by omega)⟩
    by_cases h7 : c ≤ y.2
    · exact ⟨y, by simp, by omega, h7⟩
    · obtain ⟨x, hx, h8⟩ := h3 c (by omega) c2
      exact ⟨x, by simp [hx], h8⟩
  · rw [show nt1 (t, b) y = (t, b) by rw [nt1, if_neg hc]]
    obtain ⟨h1, h2, h3, h4, h5⟩ := zm5 l t b hl ht
    refine ⟨h1, h2, fun c c1 c2 => ?_, fun h6 => ?_, h5⟩
    · obtain ⟨x, hx, h8⟩ := h3 c c1 c2
      exact ⟨x, by simp [hx], h8⟩
    · obtain ⟨g1, g2, g3⟩ := h4 h6
      refine ⟨g1, g2, fun x hx => ?_⟩
      rw [List.mem_cons] at hx
      rcases hx with rfl | hx
      · exact hc
      · exact g3 x hx
theorem zmm {l : List Rg} {t : Int} (h : vR l) (ht : t ≤ 1114111) : t ≤ (nfT l t).1 ∧ (nfT l t).1 ≤ 1114111 ∧ (∀ c, t < c → c ≤ (nfT l t).1 → inS l c) ∧
  ((nfT l t).2 = false → (nfT l t).1 = t ∧ ¬ inS l (t + 1)) ∧ ((nfT l t).2 = true → t < (nfT l t).1) := by
 obtain ⟨h1, h2, h3, h4, h5⟩ := zm5 l t false h ht
 refine ⟨h1, h2, h3, fun h6 => ⟨(h4 h6).2.1, ?_⟩, fun h6 => ?_⟩
 · rintro ⟨x, hx, h7, h8⟩
   exact (h4 h6).2.2 x hx ⟨h7, by omega⟩
 · rcases h5 h6 with h7 | h7
   · cases h7
   · exact h7
/-- the runs of the members below a place -/
def nsI (l r : List Rg) (a : Int) : Prop := 0 ≤ a ∧ a ≤ 1114112 ∧ nrm 0 r ∧ (∀ x ∈ r, x.2 < a) ∧ (∀ c, inS r c ↔ inS l c ∧ c < a) ∧ (a = 0 ∨ ¬ inS l a) ∧ (r.length : Int) ≤ a
theorem zv4 {l : List Rg} (h : vR l) : nsI l [] 0 := by
 refine ⟨Int.le_refl _, by decide, trivial, by simp, fun c => ⟨?_, ?_⟩, .inl rfl, by simp⟩
 · rintro ⟨x, hx, _⟩; simp at hx
 · rintro ⟨⟨x, hx, h1, h2⟩, h3⟩
   have := h x hx; omega
theorem zhs : ∀ {r : List Rg} {a f t : Int}, nrm a r → (∀ x ∈ r, x.2 + 2 ≤ f) → a ≤ f → f ≤ t → nrm a (r ++ [(f, t)])
 | [], a, f, t, _, _, h1, h2 => ⟨h1, h2, trivial⟩
 | x :: r, a, f, t, ⟨h1, h2, h3⟩, h4, h5, h6 => ⟨h1, h2, zhs h3 (fun y hy => h4 y (by simp [hy])) (h4 x (by simp)) h6⟩
theorem zmf {l r : List Rg} {a f t : Int} (h : nsI l r a) (hl : vR l) (hf : a ≤ f) (hm : ∀ c, a ≤ c → inS l c → f ≤ c) (hft : f ≤ t) (ht : t ≤ 1114111) (hin : ∀ c, f ≤ c → c ≤ t → inS l c) (hn : ¬ inS l (t + 1)) : nsI l (r ++ [(f, t)]) (t + 1) := by
 obtain ⟨h1, h2, h3, h4, h5, h6, h7⟩ := h
 refine ⟨by omega, by omega, zhs h3 (fun x hx => ?_) (by omega) hft, fun x hx => ?_, fun c => ?_, .inr hn, by rw [List.length_append, List.length_singleton]; omega⟩
 · have g1 := h4 x hx
   have g2 := zph.zal h3 x hx
   have g0 : inS r x.2 := ⟨x, hx, g2, Int.le_refl _⟩
   obtain ⟨y, hy, g3, g4⟩ := ((h5 x.2).1 g0).1
   have g5 := hl y hy
   rcases h6 with h6 | h6
   · omega
   · have : f ≠ a := fun e => h6 (by rw [← e]; exact hin f (Int.le_refl _) hft)
     omega
 · rw [List.mem_append, List.mem_singleton] at hx
   rcases hx with hx | rfl
   · have := h4 x hx; omega
   · simp only; omega
 · constructor
   · rintro ⟨x, hx, g1, g2⟩
     rw [List.mem_append, List.mem_singleton] at hx
     rcases hx with hx | rfl
     · have := (h5 c).1 ⟨x, hx, g1, g2⟩
       exact ⟨this.1, by omega⟩
     · exact ⟨hin c g1 g2, by simp only at g2; omega⟩
   · rintro ⟨g1, g2⟩
     by_cases hc : c < a
     · obtain ⟨x, hx, g3⟩ := (h5 c).2 ⟨g1, hc⟩
       exact ⟨x, by simp [hx], g3⟩
     · exact ⟨(f, t), by simp, hm c (by omega) g1, by simp only; omega⟩
theorem zjq {l r : List Rg} {a : Int} (h : nsI l r a) (hl : vR l) (hm : ∀ c, a ≤ c → ¬ inS l c) : r = norm l := by
 obtain ⟨h1, h2, h3, h4, h5, h6, h7⟩ := h
 refine norm_eq (fun x hx => ⟨(hl x hx).1, (hl x hx).2.1⟩) h3 fun c => (h5 c).trans ⟨fun g => g.1, fun g => ⟨g, ?_⟩⟩
 false_or_by_contra
 exact hm c (by omega) g
/-! what is read -/
def nfx (e : Rx) : Prop := (e.op = 2 → e = .mk 2 0 0 [] e.ks ∧ e.ks.length ≠ 1) ∧ (e.op = 3 → e = .mk 3 0 0 [] e.ks ∧ 2 ≤ e.ks.length)
theorem z90 {o : Int} {l : List Rx} (h : l.length ≠ 1) : fin o l = .mk o 0 0 [] l := by
 match l, h with
 | [], _ => rfl
 | [e], h => simp at h
 | a :: b :: l, _ => rfl
theorem ztq {e : Rx} (h : nfx e) : fin 2 (flat 2 e) = e := by
 unfold flat
 split
 · rename_i h2
   obtain ⟨h3, h4⟩ := h.1 h2
   rw [z90 h4]; exact h3.symm
 · rfl
theorem zoj {e : Rx} (h : nfx e) : fin 3 (flat 3 e) = e := by
 unfold flat
 split
 · rename_i h2
   obtain ⟨h3, h4⟩ := h.2 h2
   rw [z90 (by omega)]; exact h3.symm
 · rfl
theorem zfb {e : Rx} (h : nfx e) : 1 ≤ (flat 3 e).length := by
 unfold flat
 split
 · rename_i h2
   have := (h.2 h2).2; omega
 · simp
theorem zno {mn mx : Int} {rs : List Rg} {ks : List Rx} : nfx (.mk 1 mn mx rs ks) := ⟨fun h => absurd (show (1 : Int) = 2 from h) (by decide), fun h => absurd (show (1 : Int) = 3 from h) (by decide)⟩
theorem zoc {mn mx : Int} {rs : List Rg} {ks : List Rx} : nfx (.mk 4 mn mx rs ks) := ⟨fun h => absurd (show (4 : Int) = 2 from h) (by decide), fun h => absurd (show (4 : Int) = 3 from h) (by decide)⟩
theorem zvu {ks : List Rx} (h : ks.length ≠ 1) : nfx (.mk 2 0 0 [] ks) := ⟨fun _ => ⟨rfl, h⟩, fun h => absurd (show (2 : Int) = 3 from h) (by decide)⟩
theorem zv8 {ks : List Rx} (h : 2 ≤ ks.length) : nfx (.mk 3 0 0 [] ks) := ⟨fun h => absurd (show (3 : Int) = 2 from h) (by decide), fun _ => ⟨rfl, h⟩⟩
/-- a single part is one that was read -/
def ac2 (acc : List Rx) : Prop := ∀ y, acc = [y] → nfx y
theorem zmh {acc : List Rx} {e : Rx} (h : ac2 acc) (he : nfx e) : ac2 (acc ++ flat 2 e) := by
 intro y hy
 cases acc with
 | nil =>
  rw [List.nil_append] at hy
  unfold flat at hy
  split at hy
  · rename_i h2
    have := (he.1 h2).2
    rw [hy] at this; simp at this
  · simp only [List.cons.injEq, and_true] at hy; rw [← hy]; exact he
 | cons x acc =>
  rw [List.cons_append, List.cons.injEq, List.append_eq_nil_iff] at hy
  exact h y (by rw [hy.1, hy.2.1])
theorem zn3 {acc : List Rx} (h : ac2 acc) : nfx (fin 2 acc) := by
 by_cases h1 : acc.length = 1
 · obtain ⟨y, rfl⟩ := List.length_eq_one_iff.1 h1
   exact h y rfl
 · rw [z90 h1]; exact zvu h1
theorem zod {n : Nat} {l : List U} {e : Rx} {r : List U} (h : zb1 n l = .ok e r) : nfx e := by
 unfold zb1 at h
 split at h
 · split at h
   · cases h
   · cases h
   · split at h
     · cases h
     · simp only [Rd.ok.injEq] at h; rw [← h.1]; exact zno
 · split at h
   · cases h
   · cases h
   · simp only [Rd.ok.injEq] at h; rw [← h.1]; exact zno
theorem zsh : ∀ n : Nat, (∀ acc l e r, (acc = [] ∨ 1 ≤ acc.length) → pU n acc l = .ok e r → nfx e) ∧ (∀ acc l e r, ac2 acc → pC n acc l = .ok e r → nfx e) ∧ (∀ l e r, pR n l = .ok e r → nfx e) ∧ (∀ x l e r, nfx x → pQ n x l = .ok e r → nfx e) ∧ (∀ l e r, pA n l = .ok e r → nfx e)
 | 0 => ⟨fun _ _ _ _ _ h => by (rw [pU] at h; cases h), fun _ _ _ _ _ h => by (rw [pC] at h; cases h), fun _ _ _ h => by (rw [pR] at h; cases h), fun _ _ _ _ _ h => by (rw [pQ] at h; cases h), fun _ _ _ h => by (rw [pA] at h; cases h)⟩
 | n + 1 => by
  obtain ⟨iU, iC, iR, iQ, iA⟩ := zsh n
  refine ⟨fun acc l e r ha h => ?_, fun acc l e r ha h => ?_, fun l e r h => ?_, fun x l e r hx h => ?_, fun l e r h => ?_⟩
  · rw [pU] at h
    split at h
    · cases h
    · cases h
    · rename_i x l1 hx
      have hn := iC [] l x l1 (fun y hy => by cases hy) hx
      have hp := zfb hn
      split at h
      · exact iU _ _ _ _ (.inr (by rw [List.length_append]; omega)) h
      · simp only [Rd.ok.injEq] at h
        rw [← h.1]
        rcases ha with rfl | ha
        · rw [List.nil_append, zoj hn]; exact hn
        · rw [z90 (by rw [List.length_append]; omega)]
          exact zv8 (by rw [List.length_append]; omega)
  · rw [pC] at h
    split at h
    · simp only [Rd.ok.injEq] at h
      rw [← h.1]; exact zn3 ha
    · split at h
      · cases h
      · cases h
      · rename_i x l1 hx
        exact iC _ _ _ _ (zmh ha (iR _ _ _ hx)) h
  · rw [pR] at h
    split at h
    · cases h
    · cases h
    · rename_i x l1 hx
      exact iQ _ _ _ _ (iA _ _ _ hx) h
  · rw [pQ] at h
    split at h
    · exact iQ _ _ _ _ zoc h
    split at h
    · exact iQ _ _ _ _ zoc h
    split at h
    · exact iQ _ _ _ _ zoc h
    split at h
    · split at h
      · cases h
      · cases h
      · exact iQ _ _ _ _ zoc h
    · simp only [Rd.ok.injEq] at h; rw [← h.1]; exact hx
  · rw [pA] at h
    split at h
    · split at h
      · cases h
      · cases h
      · rename_i x l1 hx
        have hn := iU [] _ _ _ (.inl rfl) hx
        split at h
        · simp only [Rd.ok.injEq] at h; rw [← h.1]; exact hn
        · cases h
    split at h
    · simp only [Rd.ok.injEq] at h; rw [← h.1]; exact zno
    split at h
    · exact zod h
    · split at h
      · cases h
      · cases h
      · simp only [Rd.ok.injEq] at h; rw [← h.1]; exact zno
/-- several parts flattened -/
theorem zjj : ∀ {ps : List Rx}, (∀ p ∈ ps, nfx p) → ps.length ≤ (ps.flatMap (flat 3)).length
 | [], _ => Nat.zero_le _
 | p :: ps, h => by
  have := zfb (h p (by simp))
  have := zjj (ps := ps) fun q hq => h q (by simp [hq])
  rw [List.flatMap_cons, List.length_append, List.length_cons]; omega
end Go.Rx
