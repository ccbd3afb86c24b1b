/- A law holds for every input; no condition. -/
import Derived.Test.YtiapeheclfkdmaaWm
set_option linter.all false
set_option linter.unusedVariables false
set_option linter.unusedSimpArgs false
namespace Go.Proofs.Ytiapeheclfkdmaa
open Go.Ab Go.Stab
set_option maxHeartbeats 20000000
set_option maxRecDepth 100000
set_option linter.unusedVariables false
set_option linter.unusedSimpArgs false

theorem tkv_eq {v c : Int} {i : Nat} (hi : i ≤ 9) (h0 : 0 ≤ v) (hv : v < 2 ^ (7 * i)) (h : v + c % 128 * 2 ^ (7 * i) < 18446744073709551616) : tkv v c i = v + c % 128 * 2 ^ (7 * i) := by
  obtain ⟨n, rfl⟩ : ∃ n : Nat, v = n := ⟨v.toNat, by omega⟩
  obtain ⟨m, hm⟩ : ∃ m : Nat, c % 128 = m := ⟨(c % 128).toNat, by omega⟩
  rw [hm] at h ⊢
  rw [tkv, hm]
  have e1 : ((2 : Int) ^ (7 * i)) = ((2 ^ (7 * i) : Nat) : Int) := by simp
  have e0 : min ((7 * (i : Int)).toNat) IntKind.u64.bits = 7 * i := by
    have : (7 * (i : Int)).toNat = 7 * i := by omega
    rw [this]; simp [IntKind.bits]; omega
  rw [shlV, e0, e1]
  rw [e1] at hv h
  generalize hP : (2 : Nat) ^ (7 * i) = P at *
  have hlt : n + m * P < 18446744073709551616 := by rw [← Int.natCast_mul] at h; omega
  have hn : n < P := by omega
  have e2 : IntKind.u64.wrap ((m : Int) * (P : Nat)) = ((m * P : Nat) : Int) := by
    rw [wu64 (by rw [← Int.natCast_mul]; omega) (by rw [← Int.natCast_mul]; omega)]; simp
  rw [e2]
  have e3 : (BitVec.ofInt 64 ((n : Nat) : Int) ||| BitVec.ofInt 64 ((m * P : Nat) : Int)).toNat = n + m * P := by
    rw [BitVec.ofInt_natCast, BitVec.ofInt_natCast, BitVec.toNat_or, BitVec.toNat_ofNat, BitVec.toNat_ofNat, Nat.mod_eq_of_lt (by omega), Nat.mod_eq_of_lt (by omega)]
    have := Nat.two_pow_add_eq_or_of_lt (i := 7 * i) (b := n) (by rw [hP]; exact hn) m
    rw [hP] at this
    rw [Nat.or_comm, Nat.mul_comm m P, ← this, Nat.add_comm]
  show IntKind.u64.wrap ((BitVec.ofInt 64 ((n : Nat) : Int) ||| BitVec.ofInt 64 ((m * P : Nat) : Int)).toNat : Int) = _
  rw [e3, wu64 (by omega) (by omega)]
  simp
theorem pw7 : ∀ (i f : Nat), i + f = 9 → (2 : Int) ^ (7 * i) * pw f = 18446744073709551616 := by
  intro i f h
  obtain rfl : f = 9 - i := by omega
  have : i = 0 ∨ i = 1 ∨ i = 2 ∨ i = 3 ∨ i = 4 ∨ i = 5 ∨ i = 6 ∨ i = 7 ∨ i = 8 ∨ i = 9 := by omega
  rcases this with rfl | rfl | rfl | rfl | rfl | rfl | rfl | rfl | rfl | rfl <;> decide
theorem p7s (i : Nat) : (2 : Int) ^ (7 * (i + 1)) = 128 * 2 ^ (7 * i) := by
  rw [Nat.mul_add, Int.pow_add]; simp [Int.mul_comm]
theorem p7pos (i : Nat) : (1 : Int) ≤ 2 ^ (7 * i) := by
  have := Int.pow_pos (n := 2) (m := 7 * i) (by decide); omega
theorem tkv_in {v c x : Int} {i f : Nat} (hi : i + f = 9) (h0 : 0 ≤ v) (hv : v < 2 ^ (7 * i)) (hx : x = c % 128) (hxp : x + 1 ≤ pw f) : tkv v c i = v + x * 2 ^ (7 * i) := by
  subst hx
  refine tkv_eq (by omega) h0 hv ?_
  have h1 := pw7 i f hi
  have h2 := Int.mul_le_mul_of_nonneg_left hxp (by have := p7pos i; omega : (0 : Int) ≤ 2 ^ (7 * i))
  rw [h1, Int.mul_add, Int.mul_one, Int.mul_comm] at h2
  omega
theorem tk_uvF (r : List Int) : ∀ (f i : Nat) (v x : Int), i + f = 9 → 0 ≤ v → v < 2 ^ (7 * i) → 0 ≤ x → x < pw f → (0 < i → 0 < x) → tk i v (uvF f x ++ r) = (v + x * 2 ^ (7 * i), (i : Int) + (uvF f x).length, 0)
  | 0, i, v, x, hi, h0, hv, hx0, hx, hx1 => by
    obtain rfl : i = 9 := by omega
    simp only [pw] at hx
    obtain rfl : x = 1 := by have := hx1 (by decide); omega
    rw [uvF, List.singleton_append, tk, if_neg (by simp), if_pos (by decide), if_neg (by decide), tkv_in (f := 0) rfl h0 hv (x := 1) (by decide) (by simp [pw])]
    simp
  | f + 1, i, v, x, hi, h0, hv, hx0, hx, hx1 => by
    rw [uvF]
    have hpf := pw_pos f
    by_cases hs : x < 128
    · rw [if_pos hs, List.singleton_append, tk, if_neg (by omega), if_pos hs, if_neg (by omega), tkv_in (f := f + 1) hi h0 hv (x := x) (by omega) (by rw [pw] at hx ⊢; omega)]
      simp
    · rw [if_neg hs, List.cons_append, tk, if_neg (by omega), if_neg (by omega), tkv_in (f := f + 1) hi h0 hv (x := x % 128) (by omega) (by rw [pw]; omega)]
      rw [pw] at hx
      have hP := p7pos i
      have hb : x % 128 * 2 ^ (7 * i) ≤ 127 * 2 ^ (7 * i) := Int.mul_le_mul_of_nonneg_right (by omega) (by omega)
      have hb0 : 0 ≤ x % 128 * 2 ^ (7 * i) := Int.mul_nonneg (by omega) (by omega)
      rw [tk_uvF r f (i + 1) _ (x / 128) (by omega) (by omega) (by rw [p7s]; omega) (by omega) (by omega) (fun _ => by omega), p7s]
      have e : x * 2 ^ (7 * i) = x % 128 * 2 ^ (7 * i) + x / 128 * (128 * 2 ^ (7 * i)) := by
        rw [← Int.mul_assoc, ← Int.add_mul]; congr 1; omega
      rw [e, List.length_cons, Prod.mk.injEq, Prod.mk.injEq]
      refine ⟨by omega, by omega, rfl⟩
theorem tk_uv (x : Int) (r : List Int) (h0 : 0 ≤ x) (h1 : x < 18446744073709551616) : tk 0 0 (uv x ++ r) = (x, ((uv x).length : Int), 0) := by
  have := tk_uvF r 9 0 0 x rfl (by decide) (by decide) h0 h1 (fun h => absurd h (by decide))
  rw [uv, this]; simp
theorem tk_inv : ∀ (f i : Nat) (v : Int) (b : List Int) (w n : Int), i + f = 9 → 0 ≤ v → v < 2 ^ (7 * i) → isB b → tk i v b = (w, n, 0) → ∃ x, 0 ≤ x ∧ x < pw f ∧ (0 < i → 0 < x) ∧ w = v + x * 2 ^ (7 * i) ∧ n = i + (uvF f x).length ∧ b = uvF f x ++ b.drop (uvF f x).length
  | f, i, v, [], w, n, hi, h0, hv, hb, h => by simp [tk] at h
  | 0, i, v, c :: r, w, n, hi, h0, hv, hb, h => by
    obtain rfl : i = 9 := by omega
    rw [tk] at h
    by_cases hc : c ≠ 1
    · rw [if_pos ⟨rfl, hc⟩] at h; simp at h
    have hc : c = 1 := Classical.not_not.1 hc
    subst hc
    rw [if_neg (by simp), if_pos (by decide), if_neg (by decide), tkv_in (f := 0) rfl h0 hv (x := 1) (by decide) (by simp [pw])] at h
    simp only [Prod.mk.injEq, and_true] at h
    exact ⟨1, by decide, by decide, fun _ => by decide, h.1.symm, by rw [← h.2]; simp [uvF], by simp [uvF]⟩
  | f + 1, i, v, c :: r, w, n, hi, h0, hv, hb, h => by
    have hpf := pw_pos f
    obtain ⟨c0, c1⟩ := hb c (by simp)
    rw [tk, if_neg (by omega)] at h
    have hP := p7pos i
    by_cases hs : c < 128
    · rw [if_pos hs] at h
      by_cases hz : c = 0 ∧ 0 < i
      · rw [if_pos hz] at h; simp at h
      rw [if_neg hz, tkv_in (f := f + 1) hi h0 hv (x := c) (by omega) (by rw [pw]; omega)] at h
      simp only [Prod.mk.injEq, and_true] at h
      exact ⟨c, c0, by rw [pw]; omega, fun hi => by omega, h.1.symm, by rw [uvF_small _ hs, ← h.2]; simp, by rw [uvF_small _ hs]; simp⟩
    · rw [if_neg hs, tkv_in (f := f + 1) hi h0 hv (x := c % 128) (by omega) (by rw [pw]; omega)] at h
      have hbb : c % 128 * 2 ^ (7 * i) ≤ 127 * 2 ^ (7 * i) := Int.mul_le_mul_of_nonneg_right (by omega) (by omega)
      have hb0 : 0 ≤ c % 128 * 2 ^ (7 * i) := Int.mul_nonneg (by omega) (by omega)
      obtain ⟨x, x0, x1, x2, hw, hn, hr⟩ := tk_inv f (i + 1) _ r w n (by omega) (by omega) (by rw [p7s]; omega) (fun y hy => hb y (by simp [hy])) h
      have hxp := x2 (by omega)
      have hu : uvF (f + 1) (128 * x + c % 128) = c :: uvF f x := by
        rw [uvF, if_neg (by omega)]
        congr 1
        · omega
        · congr 1; omega
      refine ⟨128 * x + c % 128, by omega, by rw [pw]; omega, fun _ => by omega, ?_, ?_, ?_⟩
      · rw [hw, p7s, Int.add_mul, Int.mul_assoc, Int.mul_left_comm x 128]; omega
      · rw [hu, hn, List.length_cons]; omega
      · rw [hu, List.cons_append, List.length_cons, List.drop_succ_cons, ← hr]
theorem tk_of {b : List Int} {w n : Int} (hb : isB b) (h : tk 0 0 b = (w, n, 0)) : 0 ≤ w ∧ w < 18446744073709551616 ∧ n = (uv w).length ∧ b = uv w ++ b.drop n.toNat := by
  obtain ⟨x, x0, x1, _, hw, hn, hbx⟩ := tk_inv 9 0 0 b w n rfl (by decide) (by decide) hb h
  have hwx : w = x := by rw [hw]; simp
  subst hwx
  have hn' : n = (uv w).length := by rw [hn, uv]; simp
  refine ⟨x0, x1, hn', ?_⟩
  rw [hn', Int.toNat_natCast]; exact hbx
end Go.Proofs.Ytiapeheclfkdmaa
namespace Go.Proofs.Ytiapeheclfkdmaa
open Go.Ab Go.Stab
set_option maxHeartbeats 20000000
set_option maxRecDepth 100000
set_option linter.unusedVariables false
set_option linter.unusedSimpArgs false

theorem good_of {l : List Span} (h : chk12 l = 0) : l.length ≤ 4096 ∧ ∀ s ∈ l, goodS s := by
  obtain ⟨h1, h2⟩ := chk_all h
  refine ⟨h1, fun s hs => ?_⟩
  obtain ⟨i, hi, rfl⟩ := List.mem_iff_getElem.1 hs
  have := h2 i hi
  rw [getD_some (List.getElem?_eq_getElem hi)] at this
  exact this
theorem uvF_pos : ∀ f x, 1 ≤ (uvF f x).length
  | 0, x => by simp [uvF]
  | f + 1, x => by rw [uvF]; split <;> simp
theorem uv_pos (x : Int) : 1 ≤ (uv x).length := uvF_pos 9 x
theorem nums_flat : ∀ (L : List Int) (f : Nat), (∀ x ∈ L, 0 ≤ x ∧ x ≤ 2147483647) → (L.flatMap uv).length ≤ f → nums f (L.flatMap uv) = some L
  | [], f, _, _ => by simp [nums_nil]
  | x :: L, f, h, hf => by
    have hx := h x (by simp)
    have hp := uv_pos x
    rw [List.flatMap_cons, List.length_append] at hf
    obtain ⟨g, rfl⟩ : ∃ g, f = g + 1 := ⟨f - 1, by omega⟩
    have ht := tk_uv x (L.flatMap uv) hx.1 (by omega)
    rw [List.flatMap_cons, nums_step (by intro h; rw [List.append_eq_nil_iff] at h; rw [h.1] at hp; simp at hp), ht]
    simp only
    rw [if_neg (by omega), Int.toNat_natCast, List.drop_left, nums_flat L g (fun y hy => h y (by simp [hy])) (by omega)]
    rfl
def flatS (l : List Span) : List Int := l.flatMap fun s => [s.1, s.2 - s.1 - 1]
theorem flatS_len : ∀ l : List Span, (flatS l).length = 2 * l.length
  | [] => rfl
  | s :: l => by have := flatS_len l; simp only [flatS, List.flatMap_cons, List.length_append, List.length_cons, List.length_nil] at *; omega
theorem encB_flat (l : List Span) : encB l = ((l.length : Int) :: flatS l).flatMap uv := by
  rw [List.flatMap_cons, encB]; congr 1
  induction l with
  | nil => rfl
  | cons s l ih => simp only [encS, flatS, List.flatMap_cons, List.flatMap_append, List.flatMap_nil, List.append_nil] at *; rw [ih]
def prs : List Int → List Span
  | x :: y :: r => (x, x + y + 1) :: prs r
  | _ => []
theorem prs_flat : ∀ l : List Span, prs (flatS l) = l
  | [] => rfl
  | s :: l => by
    have e : flatS (s :: l) = s.1 :: (s.2 - s.1 - 1) :: flatS l := rfl
    rw [e, prs, prs_flat l]
    congr 1
    exact Prod.ext rfl (by simp only; omega)
/-- n spans off some bytes -/
def rdS : Nat → List Int → Option (List Span × List Int)
  | 0, p => some ([], p)
  | n + 1, p => if (tk 0 0 p).2.2 ≠ 0 then none else
    let p1 := p.drop (tk 0 0 p).2.1.toNat
    if (tk 0 0 p1).2.2 ≠ 0 ∨ 2147483648 < (tk 0 0 p).1 ∨ 2147483648 < (tk 0 0 p1).1 then none else
    (rdS n (p.drop ((tk 0 0 p).2.1 + (tk 0 0 p1).2.1).toNat)).map fun q => (((tk 0 0 p).1, (tk 0 0 p).1 + (tk 0 0 p1).1 + 1) :: q.1, q.2)
theorem rdS_enc (r : List Int) : ∀ l : List Span, (∀ s ∈ l, goodS s) → rdS l.length (encS l ++ r) = some (l, r)
  | [], _ => rfl
  | s :: l, h => by
    obtain ⟨g1, g2, g3⟩ := h s (by simp)
    have e : encS (s :: l) ++ r = uv s.1 ++ (uv (s.2 - s.1 - 1) ++ (encS l ++ r)) := by simp [encS]
    have t1 := tk_uv s.1 (uv (s.2 - s.1 - 1) ++ (encS l ++ r)) g1 (by omega)
    have t2 := tk_uv (s.2 - s.1 - 1) (encS l ++ r) (by omega) (by omega)
    rw [e, List.length_cons, rdS, t1]
    simp only [Int.toNat_natCast, List.drop_left, t2]
    rw [if_neg (by simp), if_neg (by omega)]
    have ed : (uv s.1 ++ (uv (s.2 - s.1 - 1) ++ (encS l ++ r))).drop (((uv s.1).length : Int) + ((uv (s.2 - s.1 - 1)).length : Int)).toNat = encS l ++ r := by
      rw [show (((uv s.1).length : Int) + ((uv (s.2 - s.1 - 1)).length : Int)).toNat = (uv s.1 ++ uv (s.2 - s.1 - 1)).length by rw [List.length_append]; omega, ← List.append_assoc, List.drop_left]
    rw [ed, rdS_enc r l fun t ht => h t (by simp [ht])]
    simp only [Option.map_some, Option.some.injEq, Prod.mk.injEq, and_true, List.cons.injEq]
    exact Prod.ext rfl (by simp only; omega)
theorem rdS_inv : ∀ (n : Nat) (p : List Int) (l : List Span) (r : List Int), isB p → rdS n p = some (l, r) → l.length = n ∧ p = encS l ++ r
  | 0, p, l, r, hp, h => by simp [rdS] at h; obtain ⟨rfl, rfl⟩ := h; exact ⟨rfl, rfl⟩
  | n + 1, p, l, r, hp, h => by
    rw [rdS] at h
    obtain ⟨⟨x, k, e⟩, ht⟩ : ∃ t, tk 0 0 p = t := ⟨_, rfl⟩
    rw [ht] at h
    simp only at h
    obtain ⟨⟨y, m, e2⟩, ht2⟩ : ∃ t, tk 0 0 (p.drop k.toNat) = t := ⟨_, rfl⟩
    rw [ht2] at h
    simp only at h
    by_cases he : e = 0
    · rw [if_neg (by simp [he])] at h
      by_cases he2 : e2 ≠ 0 ∨ 2147483648 < x ∨ 2147483648 < y
      · rw [if_pos he2] at h; cases h
      rw [if_neg he2] at h
      subst he
      obtain rfl : e2 = 0 := by omega
      obtain ⟨x0, x1, hk, hpx⟩ := tk_of hp ht
      obtain ⟨y0, y1, hm, hpy⟩ := tk_of (fun c hc => hp c (List.mem_of_mem_drop hc)) ht2
      have hd : p.drop (k + m).toNat = (p.drop k.toNat).drop m.toNat := by
        rw [List.drop_drop]; congr 1; omega
      rw [hd] at h
      cases hq : rdS n ((p.drop k.toNat).drop m.toNat) with
      | none => rw [hq] at h; cases h
      | some q =>
        rw [hq] at h
        simp only [Option.map_some, Option.some.injEq, Prod.mk.injEq] at h
        obtain ⟨rfl, rfl⟩ := h
        obtain ⟨h1, h2⟩ := rdS_inv n _ q.1 q.2 (fun c hc => hp c (List.mem_of_mem_drop (List.mem_of_mem_drop hc))) hq
        refine ⟨by simp [h1], ?_⟩
        have e : encS ((x, x + y + 1) :: q.1) = uv x ++ uv y ++ encS q.1 := by
          have : x + y + 1 - x - 1 = y := by omega
          simp [encS, this]
        rw [e, List.append_assoc, List.append_assoc, ← h2, ← hpy, ← hpx]
    · rw [if_pos he] at h; cases h
/-- what the reference reads of some bytes: the spans, and what is left -/
def decT (b : List Int) : Option (List Span × List Int) := if 4 ≤ b.length ∧ okSeal b = true then
    if (tk 0 0 (cut4 b)).2.2 ≠ 0 ∨ 4096 < (tk 0 0 (cut4 b)).1 then none else rdS (tk 0 0 (cut4 b)).1.toNat ((cut4 b).drop (tk 0 0 (cut4 b)).2.1.toNat)
  else none
def isEnc (b : List Int) (l : List Span) : Prop := 4 ≤ b.length ∧ okSeal b = true ∧ cut4 b = encB l ∧ chk12 l = 0
theorem decT_enc {b : List Int} {l : List Span} (h : isEnc b l) : decT b = some (l, []) := by
  obtain ⟨h1, h2, h3, h4⟩ := h
  obtain ⟨hl, hg⟩ := good_of h4
  have ht := tk_uv l.length (encS l) (by omega) (by omega)
  rw [decT, if_pos ⟨h1, h2⟩, h3, encB, ht]
  simp only [Int.toNat_natCast, List.drop_left]
  rw [if_neg (by omega)]
  have := rdS_enc [] l hg
  rwa [List.append_nil] at this
theorem decT_inv {b : List Int} {l : List Span} (hb : isB b) (h : decT b = some (l, [])) (hc : chk12 l = 0) : isEnc b l := by
  rw [decT] at h
  by_cases h1 : 4 ≤ b.length ∧ okSeal b = true
  · rw [if_pos h1] at h
    obtain ⟨⟨x, k, e⟩, ht⟩ : ∃ t, tk 0 0 (cut4 b) = t := ⟨_, rfl⟩
    rw [ht] at h
    simp only at h
    by_cases he : e ≠ 0 ∨ 4096 < x
    · rw [if_pos he] at h; cases h
    rw [if_neg he] at h
    obtain rfl : e = 0 := by omega
    obtain ⟨x0, x1, hk, hp⟩ := tk_of (cut4_isB hb) ht
    obtain ⟨h2, h3⟩ := rdS_inv _ _ _ _ (fun c hc => cut4_isB hb c (List.mem_of_mem_drop hc)) h
    refine ⟨h1.1, h1.2, ?_, hc⟩
    rw [encB, h2, show ((x.toNat : Nat) : Int) = x by omega, ← List.append_nil (encS l), ← h3, ← hp]
  · rw [if_neg h1] at h; cases h
theorem isEnc_seal {l : List Span} (h : chk12 l = 0) : isEnc (sealB (encB l)) l := by
  have hl := sealB_len (encB l)
  have hcut : cut4 (sealB (encB l)) = encB l := by rw [cut4, hl, Nat.add_sub_cancel, sealB, List.take_left]
  refine ⟨by omega, ?_, hcut, h⟩
  rw [okSeal, hcut, decide_eq_true rfl, decide_eq_true (by omega)]; rfl
theorem seal_of {b : List Int} {l : List Span} (h : isEnc b l) : sealB (encB l) = b := by
  obtain ⟨h1, h2, h3, h4⟩ := h
  rw [okSeal, Bool.and_eq_true, decide_eq_true_eq, decide_eq_true_eq] at h2
  rw [← h3]; exact h2.2
theorem isEnc_one {b : List Int} {l l' : List Span} (h : isEnc b l) (h' : isEnc b l') : l = l' := by
  have e1 := decT_enc h
  rw [decT_enc h'] at e1
  simpa using e1.symm
end Go.Proofs.Ytiapeheclfkdmaa
namespace Go.Proofs.Ytiapeheclfkdmaa
open Go.Ab Go.Stab
set_option maxHeartbeats 20000000
set_option maxRecDepth 100000
set_option linter.unusedVariables false
set_option linter.unusedSimpArgs false
attribute [local irreducible] Run Ops Op1 Does Val Tr PureF Eff1 NF Rel EffV EffM
theorem flatS_prs : ∀ R : List Int, R.length % 2 = 0 → flatS (prs R) = R
  | [], _ => rfl
  | [x], h => by simp at h
  | x :: y :: R, h => by
    have e : flatS (prs (x :: y :: R)) = x :: (x + y + 1 - x - 1) :: flatS (prs R) := rfl
    rw [e, flatS_prs R (by simp only [List.length_cons] at h; omega), show x + y + 1 - x - 1 = y by omega]
theorem flatS_get (z : Int) : ∀ (S : List Span) (k : Nat) (s : Span), S[k]? = some s → (z :: flatS S)[2 * k + 1]? = some s.1 ∧ (z :: flatS S)[2 * k + 2]? = some (s.2 - s.1 - 1)
  | [], k, s, h => by simp at h
  | t :: S, 0, s, h => by simp at h; subst h; exact ⟨rfl, rfl⟩
  | t :: S, k + 1, s, h => by
    have e : flatS (t :: S) = t.1 :: (t.2 - t.1 - 1) :: flatS S := rfl
    have h' : S[k]? = some s := by simpa using h
    have := flatS_get (t.2 - t.1 - 1) S k s h'
    rw [e]
    exact this
theorem nums_rng : ∀ (f : Nat) (b L : List Int), isB b → nums f b = some L → ∀ x ∈ L, 0 ≤ x ∧ x ≤ 2147483647
  | f, [], L, hb, h, x, hx => by rw [nums_nil] at h; simp at h; subst h; simp at hx
  | 0, c :: r, L, hb, h, x, hx => by simp [nums] at h
  | f + 1, c :: r, L, hb, h, x, hx => by
    rw [nums_step (by simp)] at h
    obtain ⟨⟨w, n, e⟩, ht⟩ : ∃ t, tk 0 0 (c :: r) = t := ⟨_, rfl⟩
    rw [ht] at h
    simp only at h
    by_cases he : e ≠ 0 ∨ 2147483647 < w
    · rw [if_pos he] at h; cases h
    rw [if_neg he] at h
    obtain rfl : e = 0 := by omega
    obtain ⟨w0, w1, hn, hp⟩ := tk_of hb ht
    cases hq : nums f ((c :: r).drop n.toNat) with
    | none => rw [hq] at h; cases h
    | some q =>
      rw [hq] at h
      simp only [Option.map_some, Option.some.injEq] at h
      subst h
      rw [List.mem_cons] at hx
      rcases hx with rfl | hx
      · omega
      · exact nums_rng f _ q (fun c hc => hb c (List.mem_of_mem_drop hc)) hq x hx
theorem nums_len : ∀ (f : Nat) (b L : List Int), nums f b = some L → L.length ≤ f
  | f, [], L, h => by rw [nums_nil] at h; simp at h; subst h; simp
  | 0, c :: r, L, h => by simp [nums] at h
  | f + 1, c :: r, L, h => by
    rw [nums_step (by simp)] at h
    split at h
    · cases h
    · cases hq : nums f ((c :: r).drop (tk 0 0 (c :: r)).2.1.toNat) with
      | none => rw [hq] at h; cases h
      | some q => rw [hq] at h; simp at h; subst h; have := nums_len f _ q hq; simp; omega
/-- what the program decodes -/
def decN (b : List Int) : Option (List Int) := if 4 ≤ b.length ∧ okSeal b = true then nums (cut4 b).length (cut4 b) else none
def decS (b : List Int) (S : List Span) : Option (List Span) := if chk12 S = 0 ∧ sealB (encB S) = b then some S else none
def decP (b : List Int) : Option (List Span) := match decN b with
  | none => none
  | some L => if L.length % 2 = 1 then decS b (prs L.tail) else none
theorem decP_iff {b : List Int} (hb : isB b) (l : List Span) : decP b = some l ↔ isEnc b l := by
  constructor
  · intro h
    rw [decP] at h
    cases hn : decN b with
    | none => rw [hn] at h; cases h
    | some L =>
      rw [hn] at h
      simp only at h
      split at h
      · rw [decS] at h
        split at h
        · rename_i h1
          simp at h; subst h
          have := isEnc_seal h1.1
          rwa [h1.2] at this
        · cases h
      · cases h
  · intro h
    have hs := seal_of h
    obtain ⟨h1, h2, h3, h4⟩ := h
    obtain ⟨hl, hg⟩ := good_of h4
    have hn : decN b = some ((l.length : Int) :: flatS l) := by
      rw [decN, if_pos ⟨h1, h2⟩, h3, encB_flat]
      refine nums_flat _ _ (fun x hx => ?_) (Nat.le_refl _)
      rw [List.mem_cons] at hx
      rcases hx with rfl | hx
      · omega
      · simp only [flatS, List.mem_flatMap, List.mem_cons, List.not_mem_nil, or_false] at hx
        obtain ⟨s, hs, hx⟩ := hx
        obtain ⟨g1, g2, g3⟩ := hg s hs
        omega
    rw [decP, hn]
    simp only [List.tail_cons, List.length_cons, flatS_len, prs_flat]
    rw [if_pos (by omega), decS, if_pos ⟨h4, hs⟩]
def decQ (o : Option (List Span)) (r : RV) : Prop := match o with
  | some l => r = .newT (xbox l) [.d (.lit (.int .i64 0))]
  | none => r = .v (.tup [.d (.lit nilP), I .i64 9])
theorem decode_s (b : List Int) (hb : b.length ≤ 100000) (hc : isB b) : ∀ H, Ab.Spec Try.prog 22 [.d (bytesL b)] H (fun r H' => decQ (decP b) r ∧ H' = H) := by
  intro H
  refine spec_of Try.func22 (by kernel_rfl) rfl (by simp) ?_
  dsimp only [Try.f22]
  by_cases h4 : b.length < 4
  · have hu := unseal_bad b h4
    have hd : decP b = none := by rw [decP, decN, if_neg (by omega)]
    rw [hd]
    repeat' (first | (refine k_op1 ?_; (first | refine o_sv rfl (by decide) ?_ | (refine k_call ?_; (refine o_fn hu rfl (by decide) ?_)))) | (refine k_ops ?_; (first | refine o_go (by first | exact .inl rfl | exact .inr ⟨_, _, _, rfl, rfl, rfl⟩) ?_ | refine o_nil ?_)) | (refine k_run ?_; (first | refine r_seq ?_ | refine r_region ?_ | refine r_true rfl ?_)))
    all_goals try (exfalso; omega)
    exact r_ret Try.func22 _ (res_two rfl rfl rfl) ⟨rfl, rfl⟩
  have hu := unseal_s b hb hc (by omega)
  rw [unsR] at hu
  cases ho : okSeal b with
  | false =>
    have hd : decP b = none := by rw [decP, decN, if_neg (by simp [ho])]
    rw [hd]
    rw [ho, if_neg (by simp)] at hu
    repeat' (first | (refine k_op1 ?_; (first | refine o_sv rfl (by decide) ?_ | (refine k_call ?_; (refine o_fn hu rfl (by decide) ?_)))) | (refine k_ops ?_; (first | refine o_go (by first | exact .inl rfl | exact .inr ⟨_, _, _, rfl, rfl, rfl⟩) ?_ | refine o_nil ?_)) | (refine k_run ?_; (first | refine r_seq ?_ | refine r_region ?_ | refine r_true rfl ?_)))
    all_goals try (exfalso; omega)
    exact r_ret Try.func22 _ (res_two rfl rfl rfl) ⟨rfl, rfl⟩
  | true =>
    rw [ho, if_pos rfl] at hu
    have hcl : (cut4 b).length ≤ b.length := by simp [cut4]
    have hn := numbers_s (cut4 b) (by omega) (cut4_isB hc)
    have hdn : decN b = nums (cut4 b).length (cut4 b) := by rw [decN, if_pos ⟨by omega, ho⟩]
    cases hN : nums (cut4 b).length (cut4 b) with
    | none =>
      rw [hN] at hn hdn
      rw [show decP b = none by rw [decP, hdn]]
      rw [numsR] at hn
      repeat' (first | (refine k_op1 ?_; (first | refine o_sv rfl (by decide) ?_ | (refine k_call ?_; (first | refine o_fn hu rfl (by decide) ?_ | refine o_fn hn rfl (by decide) ?_)))) | (refine k_ops ?_; (first | refine o_go (by first | exact .inl rfl | exact .inr ⟨_, _, _, rfl, rfl, rfl⟩) ?_ | refine o_nil ?_ | refine o_no rfl rfl (by decide) ?_)) | (refine k_run ?_; (first | refine r_seq ?_ | refine r_region ?_ | refine r_true rfl ?_ | refine r_false rfl ?_ | refine r_skip ?_)))
      all_goals try (exfalso; omega)
      exact r_ret Try.func22 _ (res_two rfl rfl rfl) ⟨rfl, rfl⟩
    | some L =>
      rw [hN] at hn hdn
      rw [numsR] at hn
      have hLl := nums_len _ _ _ hN
      have hLr := nums_rng _ _ _ (cut4_isB hc) hN
      by_cases hodd : L.length % 2 = 1
      · rw [show decP b = decS b (prs L.tail) by rw [decP, hdn]; simp only; rw [if_pos hodd]]
        obtain ⟨z, S, rfl⟩ : ∃ z S, L = z :: flatS S := by
          cases L with
          | nil => simp at hodd
          | cons z R => exact ⟨z, prs R, by rw [flatS_prs R (by simp only [List.length_cons] at hodd; omega)]⟩
        rw [List.tail_cons, prs_flat]
        have hSl : (z :: flatS S).length = 2 * S.length + 1 := by rw [List.length_cons, flatS_len]
        have hv : ∀ s ∈ S, 0 ≤ s.1 ∧ s.1 ≤ 2147483647 ∧ 0 ≤ s.2 - s.1 - 1 ∧ s.2 - s.1 - 1 ≤ 2147483647 := fun s hs => by
          have h1 := hLr s.1 (by simp only [List.mem_cons, flatS, List.mem_flatMap]; exact .inr ⟨s, hs, by simp⟩)
          have h2 := hLr (s.2 - s.1 - 1) (by simp only [List.mem_cons, flatS, List.mem_flatMap]; exact .inr ⟨s, hs, by simp⟩)
          omega
        have hl' : ((z :: flatS S).length : Int) % 2 = 1 := by omega
        repeat' (first | (refine k_op1 ?_; (first | refine o_sv rfl (by decide) ?_ | (refine k_bin ?_; (refine o_val (v_rem (by omega) (by omega)) rfl rfl (by decide) ?_)) | (refine k_blt ?_; (refine o_val (v_lenm rfl) rfl rfl (by decide) ?_)) | (refine k_call ?_; (first | refine o_fn hu rfl (by decide) ?_ | refine o_fn hn rfl (by decide) ?_)))) | (refine k_ops ?_; (first | refine o_go (by first | exact .inl rfl | exact .inr ⟨_, _, _, rfl, rfl, rfl⟩) ?_ | refine o_nil ?_)) | (refine k_run ?_; (first | refine r_seq ?_ | refine r_region ?_ | refine r_false rfl ?_ | refine r_skip ?_ | refine r_block ?_ | refine r_ifn rfl (fun _ => ?_) (fun _ => ?_))))
        all_goals try (exfalso; omega)
        refine r_slot_row 8 1000 35 2 rfl rfl rfl ?_
        refine r_loop ?_
        refine r_less (r_inv (fun k : Nat => ⟨73, [(0, .d (bytesL b)), (6, .d (u64s (z :: flatS S))), (8, .ref (0, 1000)), (9, I .i64 (2 * (k : Int) + 1))], [(1000, .row 35 2 ((S.take k).map spc))], H⟩) (fun k => k ≤ S.length) (fun k => S.length - k) ?_ 0 (Nat.zero_le _)) rfl rfl
        intro k h1 ih
        by_cases hlt : k < S.length
        · obtain ⟨s, hs⟩ : ∃ s, S[k]? = some s := ⟨_, List.getElem?_eq_getElem hlt⟩
          obtain ⟨g1, g2, g3, g4⟩ := hv s (List.mem_of_getElem? hs)
          obtain ⟨i1, i2⟩ := flatS_get z S k s hs
          rw [show 2 * k + 1 = (2 * (k : Int) + 1).toNat by omega] at i1
          rw [show 2 * k + 2 = (2 * (k : Int) + 1 + 1).toNat by omega] at i2
          have hst : (s.1, s.1 + (s.2 - s.1 - 1) + 1) = s := Prod.ext rfl (by simp only; omega)
          repeat' (first | (refine k_op1 ?_; (first | refine o_sv rfl (by decide) ?_ | (refine k_bin ?_; (refine o_val (v_add (wi64 (by omega) (by omega))) rfl rfl (by decide) ?_)) | (refine k_blt ?_; (refine o_val (v_lenm rfl) rfl rfl (by decide) ?_)))) | (refine k_ops ?_; (first | refine o_go (by first | exact .inl rfl | exact .inr ⟨_, _, _, rfl, rfl, rfl⟩) ?_ | refine o_nil ?_)) | (refine k_run ?_; (first | refine r_seq ?_ | refine r_region ?_ | refine r_skip ?_ | refine r_block ?_ | refine r_tr ?_ | refine r_inBlock ?_ | refine r_if rfl (fun _ => ?_) (fun _ => ?_) | refine r_exit rfl ?_)) | (refine k_tr ?_; (first | (refine kt_end ?_; refine t_end mix (by kernel_rfl) ?_) | refine t_sv rfl (by first | exact rfl | exact ⟨_, rfl, rfl, rfl⟩) (by decide) ?_ | (refine kt_load ?_; (refine t_val (v_loade rfl rfl rfl) (by first | exact rfl | exact ⟨_, rfl, rfl, rfl⟩) rfl rfl (by decide) ?_)) | (refine kt_index ?_; (first | refine t_val (v_index (ys := (z :: flatS S).map fun x => [Du64 x]) rfl (by omega) (idxi i1) rfl) (by first | exact rfl | exact ⟨_, rfl, rfl, rfl⟩) rfl rfl (by decide) ?_ | refine t_val (v_index (ys := (z :: flatS S).map fun x => [Du64 x]) rfl (by omega) (idxi i2) rfl) (by first | exact rfl | exact ⟨_, rfl, rfl, rfl⟩) rfl rfl (by decide) ?_)) | (refine kt_bin ?_; (first | refine t_val (v_add (wu64 (by omega) (by omega))) (by first | exact rfl | exact ⟨_, rfl, rfl, rfl⟩) rfl rfl (by decide) ?_ | refine t_val (v_add (wi64 (by omega) (by omega))) (by first | exact rfl | exact ⟨_, rfl, rfl, rfl⟩) rfl rfl (by decide) ?_)) | (refine kt_blt ?_; (refine t_app1 (g := spc) (by first | exact rfl | exact ⟨_, rfl, rfl, rfl⟩) rfl rfl (s.1, s.1 + (s.2 - s.1 - 1) + 1) rfl rfl rfl rfl rfl rfl rfl (by decide) (by rw [List.length_take]; omega) ?_)) | (refine kt_build ?_; (refine t_build (by first | exact rfl | exact ⟨_, rfl, rfl, rfl⟩) rfl rfl rfl rfl rfl rfl rfl (by decide) ?_)) | (refine kt_lit ?_; (refine t_lit (by first | exact rfl | exact ⟨_, rfl, rfl, rfl⟩) rfl rfl rfl rfl rfl rfl rfl rfl (by decide) ?_)) | (refine kt_conv ?_; (refine t_val (v_conv rfl rfl (wi64 (by omega) (by omega))) (by first | exact rfl | exact ⟨_, rfl, rfl, rfl⟩) rfl rfl (by decide) ?_)))))
          all_goals try (exfalso; omega)
          rw [hst]
          refine r_ren 57 1000 rfl rfl ?_
          refine r_less (ih (k + 1) (by omega) (by omega)) ?_ ?_
          · rw [show 2 * ((k + 1 : Nat) : Int) + 1 = 2 * (k : Int) + 1 + 2 by omega]; rfl
          · rw [take_succ' hs]; rfl
        · obtain rfl : k = S.length := by omega
          rw [List.take_length] at *
          clear ih
          refine r_freeze 1000 rfl ?_
          by_cases hk : chk12 S = 0
          · obtain ⟨k1, k2⟩ := good_of hk
            have hb1 := build_ok S (by rw [bldE_eq, hk])
            have he := encode_s (X := 600) 0 S k1 k2
            have hq := beq_s (sealB (encB S)) b (sealB_isB (isB_app (uv_isB (by omega) (by omega)) (encS_isB S k2))) hc
            rw [decS]
            by_cases hs : sealB (encB S) = b
            · rw [if_pos ⟨hk, hs⟩]
              rw [decide_eq_true hs] at hq
              repeat' (first | (refine k_op1 ?_; (first | refine o_sv rfl (by decide) ?_ | (refine k_blt ?_; (refine o_val (v_lenm rfl) rfl rfl (by decide) ?_)) | (refine k_call ?_; (first | (refine o_callnT rfl (hb1 _) (by decide) rfl (fun r H' h => ⟨_, _, h.1, h.2, rfl, rfl, ?_⟩); refine o_renT 60 600 rfl rfl ?_) | refine o_effd he rfl rfl (by decide) ?_ | refine o_fn hq rfl (by decide) ?_)))) | (refine k_ops ?_; (first | refine o_go (by first | exact .inl rfl | exact .inr ⟨_, _, _, rfl, rfl, rfl⟩) ?_ | refine o_nil ?_)) | (refine k_run ?_; (first | refine r_seq ?_ | refine r_region ?_ | refine r_false rfl ?_ | refine r_skip ?_ | refine r_block ?_ | refine r_tr ?_ | refine r_if rfl (fun _ => ?_) (fun _ => ?_) | refine r_exit rfl ?_)) | (refine k_tr ?_; (refine t_sv rfl (by first | exact rfl | exact ⟨_, rfl, rfl, rfl⟩) (by decide) ?_)))
              all_goals try (exfalso; omega)
              exact r_ret Try.func22 _ (res_newT (qs := [.d (spans S), .d (nats (ordS S)), .d (ints (endsS S))]) rfl rfl rfl rfl rfl) ⟨rfl, rfl⟩
            · rw [if_neg fun h => hs h.2]
              rw [decide_eq_false hs] at hq
              repeat' (first | (refine k_op1 ?_; (first | refine o_sv rfl (by decide) ?_ | (refine k_blt ?_; (refine o_val (v_lenm rfl) rfl rfl (by decide) ?_)) | (refine k_call ?_; (first | (refine o_callnT rfl (hb1 _) (by decide) rfl (fun r H' h => ⟨_, _, h.1, h.2, rfl, rfl, ?_⟩); refine o_renT 60 600 rfl rfl ?_) | refine o_effd he rfl rfl (by decide) ?_ | refine o_fn hq rfl (by decide) ?_)))) | (refine k_ops ?_; (first | refine o_go (by first | exact .inl rfl | exact .inr ⟨_, _, _, rfl, rfl, rfl⟩) ?_ | refine o_nil ?_)) | (refine k_run ?_; (first | refine r_seq ?_ | refine r_region ?_ | refine r_true rfl ?_ | refine r_skip ?_ | refine r_block ?_ | refine r_tr ?_ | refine r_if rfl (fun _ => ?_) (fun _ => ?_) | refine r_exit rfl ?_)) | (refine k_tr ?_; (refine t_sv rfl (by first | exact rfl | exact ⟨_, rfl, rfl, rfl⟩) (by decide) ?_)))
              all_goals try (exfalso; omega)
              exact r_ret Try.func22 _ (res_two rfl rfl rfl) ⟨rfl, rfl⟩
          · rw [decS, if_neg fun h => hk h.1]
            have hb1 := build_bad S (by omega) (by rw [bldE_eq]; exact hk)
            rw [bldE_eq] at hb1
            repeat' (first | (refine k_op1 ?_; (first | refine o_sv rfl (by decide) ?_ | (refine k_blt ?_; (refine o_val (v_lenm rfl) rfl rfl (by decide) ?_)) | (refine k_call ?_; (refine o_fn hb1 rfl (by decide) ?_)))) | (refine k_ops ?_; (first | refine o_go (by first | exact .inl rfl | exact .inr ⟨_, _, _, rfl, rfl, rfl⟩) ?_ | refine o_nil ?_ | refine o_no rfl rfl (by decide) ?_ | refine o_casen rfl rfl (fun _ => ?_) (fun _ => ?_))) | (refine k_run ?_; (first | refine r_seq ?_ | refine r_region ?_ | refine r_true rfl ?_ | refine r_skip ?_ | refine r_block ?_ | refine r_tr ?_ | refine r_if rfl (fun _ => ?_) (fun _ => ?_) | refine r_exit rfl ?_)) | (refine k_tr ?_; (refine t_sv rfl (by first | exact rfl | exact ⟨_, rfl, rfl, rfl⟩) (by decide) ?_)))
            all_goals try (exfalso; omega)
            exact r_ret Try.func22 _ (res_two rfl rfl rfl) ⟨rfl, rfl⟩
      · rw [show decP b = none by rw [decP, hdn]; simp only; rw [if_neg hodd]]
        repeat' (first | (refine k_op1 ?_; (first | refine o_sv rfl (by decide) ?_ | (refine k_bin ?_; (refine o_val (v_rem (by omega) (by omega)) rfl rfl (by decide) ?_)) | (refine k_blt ?_; (refine o_val (v_lenm rfl) rfl rfl (by decide) ?_)) | (refine k_call ?_; (first | refine o_fn hu rfl (by decide) ?_ | refine o_fn hn rfl (by decide) ?_)))) | (refine k_ops ?_; (first | refine o_go (by first | exact .inl rfl | exact .inr ⟨_, _, _, rfl, rfl, rfl⟩) ?_ | refine o_nil ?_)) | (refine k_run ?_; (first | refine r_seq ?_ | refine r_region ?_ | refine r_false rfl ?_ | refine r_skip ?_ | refine r_block ?_ | refine r_ifn rfl (fun _ => ?_) (fun _ => ?_))))
        all_goals try (exfalso; omega)
        exact r_ret Try.func22 _ (res_two rfl rfl rfl) ⟨rfl, rfl⟩
end Go.Proofs.Ytiapeheclfkdmaa
