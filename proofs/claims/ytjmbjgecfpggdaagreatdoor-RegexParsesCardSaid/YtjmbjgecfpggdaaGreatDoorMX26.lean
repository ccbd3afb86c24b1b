/- A part of the proof: RX26. -/
import Derived.Test.YtjmbjgecfpggdaaGreatDoorMX25
set_option linter.all false
set_option linter.unusedVariables false
set_option linter.unusedSimpArgs false
namespace Go.Rx
/-- where a reader stands: in front of the rest, or behind an error -/
inductive Sr where
 | ok (rest : List U)
 | er (rest : List U) (at_ : List U) (e : Int)
inductive Rs where
 | out
 | res (e : Rx) (s : Sr)
def z7u (sp : List Int) (l : List U) : Int × Sr := match z6j sp l with
 | .ok c r => (c, .ok r)
 | .err a e => (0, .er a a e)
 | .out => (0, .ok l)
def z4c (c : Int) (l : List U) : Sr := if nx l = c then .ok l.tail else .er l l 3
def z6r (least : Int) : List U → Int × Sr
 | [] => (0, .er [] [] 3)
 | c :: l =>
  if dgt c.r = false then (0, .er (c :: l) (c :: l) 3)
  else if 0 < c.r - 48 ∧ l = [] then (0, .er [] [] 3)
  else if 0 < c.r - 48 ∧ dgt (nx l) = true then
   (10 * (c.r - 48) + (nx l - 48), if 16 < 10 * (c.r - 48) + (nx l - 48) ∨ 10 * (c.r - 48) + (nx l - 48) < least then .er l.tail (c :: l) 8 else .ok l.tail)
  else (c.r - 48, if 16 < c.r - 48 ∨ c.r - 48 < least then .er l (c :: l) 8 else .ok l)
def zcn (l : List U) : Int × Int × Sr := match (z6r 0 l).2 with
 | .er y x c => ((z6r 0 l).1, (z6r 0 l).1, .er y x c)
 | .ok l1 => if nx l1 = 44 then
   (if nx l1.tail = 125 then ((z6r 0 l).1, -1, z4c 125 l1.tail) else match (z6r (z6r 0 l).1 l1.tail).2 with
     | .er y x c => ((z6r 0 l).1, (z6r (z6r 0 l).1 l1.tail).1, .er y x c)
     | .ok l3 => ((z6r 0 l).1, (z6r (z6r 0 l).1 l1.tail).1, z4c 125 l3))
  else ((z6r 0 l).1, (z6r 0 l).1, z4c 125 l1)
/-- one range of a class -/
def zaa (l : List U) : Rg × Sr := match (z7u spC l).2 with
 | .er y x c => (((z7u spC l).1, (z7u spC l).1), .er y x c)
 | .ok l1 => if nx l1 = 45 then (((z7u spC l).1, (z7u spC l1.tail).1), match (z7u spC l1.tail).2 with
   | .er y x c => .er y x c
   | .ok l2 => if (z7u spC l1.tail).1 < (z7u spC l).1 then .er l2 l 8 else .ok l2)
  else (((z7u spC l).1, (z7u spC l).1), .ok l1)
/-- the ranges of a class: in front of its end, or behind an error -/
def zcq : Nat → List Rg → List U → Option (List Rg × Sr)
 | 0, _, _ => none
 | n + 1, acc, l => if acc ≠ [] ∧ nx l = 93 then some (acc, .ok l) else match (zaa l).2 with
  | .er y x c => some (acc ++ [(zaa l).1], .er y x c)
  | .ok l1 => zcq n (acc ++ [(zaa l).1]) l1
/-- what a class is, its ranges read -/
def zrx (b : Bool) (L : List U) : Option (List Rg × Sr) → Rs
 | none => .out
 | some (_, .er y a e) => .res zau (.er y a e)
 | some (rs, .ok l1) => if b = true then (if (zfw rs).length = 0 then .res (zaj []) (.er l1.tail L 1) else .res (zaj (zfw rs)) (.ok l1.tail)) else .res (zaj (norm rs)) (.ok l1.tail)
def zl0 (n : Nat) (l : List U) : Rs := zrx (decide (nx l.tail = 94)) l (zcq n [] (if nx l.tail = 94 then l.tail.tail else l.tail))
def zjg : List Rx → Rx
 | [e] => e
 | l => .mk 3 0 0 [] (l.flatMap (flat 3))
def zhq : List Rx → Rx
 | [e] => e
 | l => match l.flatMap (flat 2) with
  | [k] => k
  | ks => .mk 2 0 0 [] ks
mutual
def rU : Nat → List Rx → List U → Rs
 | 0, _, _ => .out
 | n + 1, ps, l => match rC n [] l with
  | .out => .out
  | .res e (.er y a c) => .res (zjg (ps ++ [e])) (.er y a c)
  | .res e (.ok l1) => if nx l1 = 124 then rU n (ps ++ [e]) l1.tail else .res (zjg (ps ++ [e])) (.ok l1)
def rC : Nat → List Rx → List U → Rs
 | 0, _, _ => .out
 | n + 1, ps, l => if nx l < 0 ∨ nx l = 124 ∨ nx l = 41 then .res (zhq ps) (.ok l) else match rR n l with
  | .out => .out
  | .res e (.er y a c) => .res (zhq (ps ++ [e])) (.er y a c)
  | .res e (.ok l1) => rC n (ps ++ [e]) l1
def rR : Nat → List U → Rs
 | 0, _ => .out
 | n + 1, l => match rA n l with
  | .out => .out
  | .res e (.er y a c) => .res e (.er y a c)
  | .res e (.ok l1) => rQ n e l1
def rQ : Nat → Rx → List U → Rs
 | 0, _, _ => .out
 | n + 1, e, l => if nx l = 42 then rQ n (z5f 0 (-1) e) l.tail else if nx l = 43 then rQ n (z5f 1 (-1) e) l.tail else if nx l = 63 then rQ n (z5f 0 1 e) l.tail
  else if nx l = 123 then (match (zcn l.tail).2.2 with
   | .er y a c => .res (z5f (zcn l.tail).1 (zcn l.tail).2.1 e) (.er y a c)
   | .ok l1 => rQ n (z5f (zcn l.tail).1 (zcn l.tail).2.1 e) l1)
  else .res e (.ok l)
def rA : Nat → List U → Rs
 | 0, _ => .out
 | n + 1, l => if nx l = 40 then (match rU n [] l.tail with
   | .out => .out
   | .res e (.er y a c) => .res e (.er y a c)
   | .res e (.ok l1) => .res e (z4c 41 l1))
  else if nx l = 46 then .res (one 0 1114111) (.ok l.tail)
  else if nx l = 91 then zl0 n l
  else .res (one (z7u spA l).1 (z7u spA l).1) (z7u spA l).2
end
/-- the program's reading and the reference's -/
def rel (q : Rd Rx) : Rs → Prop
 | .out => q = .out
 | .res e (.ok l) => q = .ok e l
 | .res _ (.er y a c) => q = .err a c
theorem zeg (k : Int) (l : List U) : match (z6r k l).2 with
  | .ok r => z6z k l = .ok (z6r k l).1 r
  | .er y a c => z6z k l = .err a c := by
 cases l with
 | nil => rfl
 | cons c l =>
  by_cases h1 : dgt c.r = false
  · rw [show z6r k (c :: l) = (0, .er (c :: l) (c :: l) 3) by rw [z6r, if_pos h1], show z6z k (c :: l) = .err (c :: l) 3 by rw [z6z, if_pos h1]]
  by_cases h2 : 0 < c.r - 48 ∧ l = []
  · rw [show z6r k (c :: l) = (0, .er [] [] 3) by rw [z6r, if_neg h1, if_pos h2], show z6z k (c :: l) = .err [] 3 by rw [z6z, if_neg h1, if_pos h2]]
  by_cases h3 : 0 < c.r - 48 ∧ dgt (nx l) = true
  · by_cases h4 : 16 < 10 * (c.r - 48) + (nx l - 48) ∨ 10 * (c.r - 48) + (nx l - 48) < k
    · rw [show z6r k (c :: l) = (10 * (c.r - 48) + (nx l - 48), .er l.tail (c :: l) 8) by rw [z6r, if_neg h1, if_neg h2, if_pos h3, if_pos h4], show z6z k (c :: l) = .err (c :: l) 8 by rw [z6z, if_neg h1, if_neg h2, if_pos h3, if_pos h4]]
    · rw [show z6r k (c :: l) = (10 * (c.r - 48) + (nx l - 48), .ok l.tail) by rw [z6r, if_neg h1, if_neg h2, if_pos h3, if_neg h4], show z6z k (c :: l) = .ok (10 * (c.r - 48) + (nx l - 48)) l.tail by rw [z6z, if_neg h1, if_neg h2, if_pos h3, if_neg h4]]
  · by_cases h4 : 16 < c.r - 48 ∨ c.r - 48 < k
    · rw [show z6r k (c :: l) = (c.r - 48, .er l (c :: l) 8) by rw [z6r, if_neg h1, if_neg h2, if_neg h3, if_pos h4], show z6z k (c :: l) = .err (c :: l) 8 by rw [z6z, if_neg h1, if_neg h2, if_neg h3, if_pos h4]]
    · rw [show z6r k (c :: l) = (c.r - 48, .ok l) by rw [z6r, if_neg h1, if_neg h2, if_neg h3, if_neg h4], show z6z k (c :: l) = .ok (c.r - 48) l by rw [z6z, if_neg h1, if_neg h2, if_neg h3, if_neg h4]]
theorem zdx (lo hi : Int) (l : List U) : match z4c 125 l with
  | .ok r => zb6 lo hi l = .ok (lo, hi) l ∧ r = l.tail
  | .er y a c => zb6 lo hi l = .err a c := by
 unfold z4c zb6
 split
 · rename_i h
   split at h
   · rename_i h2; rw [if_pos h2]; simp only [Sr.ok.injEq] at h; exact ⟨rfl, h.symm⟩
   · cases h
 · rename_i h
   split at h
   · cases h
   · rename_i h2; rw [if_neg h2]; simp only [Sr.er.injEq] at h; rw [h.2.1, h.2.2]
theorem zh6 (l : List U) : match (zcn l).2.2 with
  | .ok r => ∃ l1, z7y l = .ok ((zcn l).1, (zcn l).2.1) l1 ∧ r = l1.tail
  | .er y a c => z7y l = .err a c := by
 have h0 := zeg 0 l
 unfold zcn z7y
 generalize z6r 0 l = A at *
 obtain ⟨lo, s1⟩ := A
 cases s1 with
 | er y a c => simp only at h0 ⊢; rw [h0]
 | ok l1 =>
  simp only at h0 ⊢
  rw [h0]
  simp only
  have h1 := zeg lo l1.tail
  generalize z6r lo l1.tail = B at *
  obtain ⟨hi, s2⟩ := B
  by_cases hc : nx l1 = 44
  · rw [if_pos hc, if_pos hc]
    by_cases hd : nx l1.tail = 125
    · rw [if_pos hd, if_pos hd]
      have h2 := zdx lo (-1) l1.tail
      simp only
      cases hw : z4c 125 l1.tail with
      | ok r => rw [hw] at h2; exact ⟨_, h2.1, h2.2⟩
      | er y a c => rw [hw] at h2; exact h2
    · rw [if_neg hd, if_neg hd]
      cases s2 with
      | er y a c => simp only at h1 ⊢; rw [h1]
      | ok l3 =>
       simp only at h1 ⊢
       rw [h1]
       simp only
       have h2 := zdx lo hi l3
       cases hw : z4c 125 l3 with
       | ok r => rw [hw] at h2; exact ⟨_, h2.1, h2.2⟩
       | er y a c => rw [hw] at h2; exact h2
  · rw [if_neg hc, if_neg hc]
    have h2 := zdx lo lo l1
    simp only
    cases hw : z4c 125 l1 with
    | ok r => rw [hw] at h2; exact ⟨_, h2.1, h2.2⟩
    | er y a c => rw [hw] at h2; exact h2
theorem zhg (sp : List Int) (l : List U) : match (z7u sp l).2 with
  | .ok r => z6j sp l = .ok (z7u sp l).1 r
  | .er y a c => z6j sp l = .err a c ∧ (z7u sp l).1 = 0 ∧ y = a := by
 unfold z7u
 cases hp : z6j sp l with
 | out => exact absurd hp z9x
 | err a c => exact ⟨rfl, rfl, rfl⟩
 | ok c r => rfl
theorem znc (l : List U) : match (zaa l).2 with
  | .ok r => z7x l = .ok (zaa l).1 r
  | .er y a c => z7x l = .err a c := by
 have h0 := zhg spC l
 unfold zaa z7x
 generalize z7u spC l = A at *
 obtain ⟨a, s1⟩ := A
 cases s1 with
 | er y x c => simp only at h0 ⊢; rw [h0.1]
 | ok l1 =>
  simp only at h0 ⊢
  rw [h0]
  simp only
  by_cases hc : nx l1 = 45
  · have h1 := zhg spC l1.tail
    generalize z7u spC l1.tail = B at *
    obtain ⟨b, s2⟩ := B
    rw [if_pos hc, if_pos hc]
    cases s2 with
    | er y x c => simp only at h1 ⊢; rw [h1.1]
    | ok l2 =>
     simp only at h1 ⊢
     rw [h1]
     by_cases hb : b < a
     · rw [if_pos hb]; simp only; rw [if_pos hb]
     · rw [if_neg hb]; simp only; rw [if_neg hb]
  · rw [if_neg hc, if_neg hc]
theorem zca : ∀ (n : Nat) (acc : List Rg) (l : List U), match zcq n acc l with
  | none => z4a n acc l = .out
  | some (_, .er _ a c) => z4a n acc l = .err a c
  | some (rs, .ok l1) => z4a n acc l = .ok rs l1.tail ∧ nx l1 = 93
 | 0, _, _ => rfl
 | n + 1, acc, l => by
  rw [zcq, z4a]
  by_cases hc : acc ≠ [] ∧ nx l = 93
  · rw [if_pos hc, if_pos hc]; exact ⟨rfl, hc.2⟩
  · rw [if_neg hc, if_neg hc]
    have h0 := znc l
    generalize zaa l = A at *
    obtain ⟨r, s1⟩ := A
    cases s1 with
    | er y x c => simp only at h0 ⊢; rw [h0]
    | ok l1 => simp only at h0 ⊢; rw [h0]; exact zca n (acc ++ [r]) l1
theorem zhb (n : Nat) (l : List U) : rel (zb1 n l) (zl0 n l) := by
 unfold zb1 zl0
 split
 · rename_i h
   have h0 := zca n [] l.tail.tail
   rw [decide_eq_true h]
   cases hq : zcq n [] l.tail.tail with
   | none => rw [hq] at h0; simp only at h0; rw [h0]; rfl
   | some q =>
    obtain ⟨rs, s1⟩ := q
    cases s1 with
    | er y x c => rw [hq] at h0; simp only at h0; rw [h0]; rfl
    | ok l1 =>
     rw [hq] at h0; simp only at h0; rw [h0.1]
     simp only [zrx, if_true]
     split <;> rfl
 · rename_i h
   have h0 := zca n [] l.tail
   rw [decide_eq_false h]
   cases hq : zcq n [] l.tail with
   | none => rw [hq] at h0; simp only at h0; rw [h0]; rfl
   | some q =>
    obtain ⟨rs, s1⟩ := q
    cases s1 with
    | er y x c => rw [hq] at h0; simp only at h0; rw [h0]; rfl
    | ok l1 => rw [hq] at h0; simp only at h0; rw [h0.1]; rfl
theorem zr1 {ps : List Rx} (h : ∀ p ∈ ps, nfx p) (h0 : 1 ≤ ps.length) : fin 3 (ps.flatMap (flat 3)) = zjg ps := by
 match ps, h0 with
 | [p], _ => rw [zjg, List.flatMap_cons, List.flatMap_nil, List.append_nil]; exact zoj (h p (by simp))
 | a :: b :: ps, _ =>
  have := zjj h
  rw [z90 (by rw [List.length_cons, List.length_cons] at this; omega)]; rfl
theorem zq8 {ps : List Rx} (h : ∀ p ∈ ps, nfx p) : fin 2 (ps.flatMap (flat 2)) = zhq ps := by
 match ps with
 | [] => rfl
 | [p] => rw [zhq, List.flatMap_cons, List.flatMap_nil, List.append_nil]; exact ztq (h p (by simp))
 | a :: b :: ps =>
  rw [zhq]
  · generalize (a :: b :: ps).flatMap (flat 2) = ks
    match ks with
    | [] => rfl
    | [k] => rfl
    | a :: b :: ks => rfl
  · intro e he; cases he
theorem zj5 : ∀ n : Nat, (∀ ps l, (∀ p ∈ ps, nfx p) → rel (pU n (ps.flatMap (flat 3)) l) (rU n ps l)) ∧ (∀ ps l, (∀ p ∈ ps, nfx p) → rel (pC n (ps.flatMap (flat 2)) l) (rC n ps l)) ∧
  (∀ l, rel (pR n l) (rR n l)) ∧ (∀ e l, rel (pQ n e l) (rQ n e l)) ∧ (∀ l, rel (pA n l) (rA n l))
 | 0 => ⟨fun _ _ _ => by rw [pU, rU]; rfl, fun _ _ _ => by rw [pC, rC]; rfl, fun _ => by rw [pR, rR]; rfl, fun _ _ => by rw [pQ, rQ]; rfl, fun _ => by rw [pA, rA]; rfl⟩
 | n + 1 => by
  obtain ⟨iU, iC, iR, iQ, iA⟩ := zj5 n
  obtain ⟨fU, fC, fR, fQ, fA⟩ := zsh n
  refine ⟨fun ps l hp => ?_, fun ps l hp => ?_, fun l => ?_, fun e l => ?_, fun l => ?_⟩
  · rw [pU, rU]
    have h1 := iC [] l (by simp)
    rw [List.flatMap_nil] at h1
    cases hr : rC n [] l with
    | out => rw [hr] at h1; rw [show pC n [] l = .out from h1]; rfl
    | res e s =>
     rw [hr] at h1
     cases s with
     | er y a c => rw [show pC n [] l = .err a c from h1]; rfl
     | ok l1 =>
      have h1 : pC n [] l = .ok e l1 := h1
      rw [h1]
      have he : nfx e := fC [] l e l1 (fun y hy => by cases hy) h1
      have hp' : ∀ p ∈ ps ++ [e], nfx p := fun p hm => by
       rw [List.mem_append, List.mem_singleton] at hm
       rcases hm with hm | rfl
       · exact hp p hm
       · exact he
      have h2 := iU (ps ++ [e]) l1.tail hp'
      rw [List.flatMap_append, List.flatMap_cons, List.flatMap_nil, List.append_nil] at h2
      simp only
      split
      · exact h2
      · have h3 := zr1 hp' (by rw [List.length_append, List.length_singleton]; omega)
        rw [List.flatMap_append, List.flatMap_cons, List.flatMap_nil, List.append_nil] at h3
        rw [h3]; rfl
  · rw [pC, rC]
    split
    · rw [zq8 hp]; rfl
    · have h1 := iR l
      cases hr : rR n l with
      | out => rw [hr] at h1; rw [show pR n l = .out from h1]; rfl
      | res e s =>
       rw [hr] at h1
       cases s with
       | er y a c => rw [show pR n l = .err a c from h1]; rfl
       | ok l1 =>
        have h1 : pR n l = .ok e l1 := h1
        rw [h1]
        have h2 := iC (ps ++ [e]) l1 fun p hm => by
         rw [List.mem_append, List.mem_singleton] at hm
         rcases hm with hm | rfl
         · exact hp p hm
         · exact fR l _ l1 h1
        rw [List.flatMap_append, List.flatMap_cons, List.flatMap_nil, List.append_nil] at h2
        exact h2
  · rw [pR, rR]
    have h1 := iA l
    cases hr : rA n l with
    | out => rw [hr] at h1; rw [show pA n l = .out from h1]; rfl
    | res e s =>
     rw [hr] at h1
     cases s with
     | er y a c => rw [show pA n l = .err a c from h1]; rfl
     | ok l1 => rw [show pA n l = .ok e l1 from h1]; exact iQ e l1
  · rw [pQ, rQ]
    split
    · exact iQ _ _
    split
    · exact iQ _ _
    split
    · exact iQ _ _
    split
    · have h1 := zh6 l.tail
      generalize zcn l.tail = A at *
      obtain ⟨lo, hi, s⟩ := A
      cases s with
      | er y a c => simp only at h1 ⊢; rw [h1]; rfl
      | ok l1 =>
       simp only at h1 ⊢
       obtain ⟨l2, h2, rfl⟩ := h1
       rw [h2]; exact iQ _ _
    · rfl
  · rw [pA, rA]
    split
    · have h1 := iU [] l.tail (by simp)
      rw [List.flatMap_nil] at h1
      cases hr : rU n [] l.tail with
      | out => rw [hr] at h1; rw [show pU n [] l.tail = .out from h1]; rfl
      | res e s =>
       rw [hr] at h1
       cases s with
       | er y a c => rw [show pU n [] l.tail = .err a c from h1]; rfl
       | ok l1 =>
        rw [show pU n [] l.tail = .ok e l1 from h1]
        simp only [z4c]
        split <;> rfl
    split
    · rfl
    split
    · exact zhb n l
    · unfold z7u
      cases hp : z6j spA l with
      | out => exact absurd hp z9x
      | err a c => rfl
      | ok c r => rfl
/-! how large -/
def szB (k : Nat) : Rs → Prop
 | .out => True
 | .res e (.ok r) => sz e + 2 * r.length ≤ k
 | .res e (.er _ _ _) => sz e ≤ k + 1
theorem z6p (o : Int) : ∀ ps : List Rx, szL (ps.flatMap (flat o)) ≤ szL ps
 | [] => by simp [szL]
 | p :: ps => by
  have := zbl o p
  have := z6p o ps
  rw [List.flatMap_cons, z8i, szL]; omega
theorem zqj (ps : List Rx) : sz (zjg ps) ≤ 1 + szL ps := by
 unfold zjg
 split
 · simp [szL]
 · have := z6p 3 ps
   rw [sz]; omega
theorem zm6 (ps : List Rx) : sz (zhq ps) ≤ 1 + szL ps := by
 unfold zhq
 split
 · simp [szL]
 · have := z6p 2 ps
   split
   · rename_i h; rw [h] at this; simp only [szL] at this; omega
   · rw [sz]; omega
theorem z8g (ps : List Rx) (e : Rx) : szL (ps ++ [e]) = szL ps + sz e := by rw [z8i, szL, szL, Nat.add_zero]
theorem zub : ∀ n : Nat, (∀ ps l, szB (szL ps + 2 + 2 * l.length) (rU n ps l)) ∧ (∀ ps l, szB (szL ps + 1 + 2 * l.length) (rC n ps l)) ∧
  (∀ l, szB (2 * l.length) (rR n l)) ∧ (∀ e l, szB (sz e + 2 * l.length) (rQ n e l)) ∧ (∀ l, szB (2 * l.length) (rA n l))
 | 0 => ⟨fun _ _ => by rw [rU]; trivial, fun _ _ => by rw [rC]; trivial, fun _ => by rw [rR]; trivial, fun _ _ => by rw [rQ]; trivial, fun _ => by rw [rA]; trivial⟩
 | n + 1 => by
  obtain ⟨iU, iC, iR, iQ, iA⟩ := zub n
  have mono : ∀ {a b : Nat} {x : Rs}, szB a x → a ≤ b → szB b x := fun {a b x} h hab => by
   cases x with
   | out => trivial
   | res e s => cases s <;> simp only [szB] at h ⊢ <;> omega
  refine ⟨fun ps l => ?_, fun ps l => ?_, fun l => ?_, fun e l => ?_, fun l => ?_⟩
  · rw [rU]
    have h1 := iC [] l
    cases hr : rC n [] l with
    | out => trivial
    | res e s =>
     rw [hr] at h1
     have h2 := zqj (ps ++ [e])
     rw [z8g] at h2
     cases s with
     | er y a c => simp only [szB, szL] at h1 ⊢; omega
     | ok l1 =>
      simp only [szB, szL] at h1
      simp only
      by_cases hc : nx l1 = 124
      · rw [if_pos hc]
        have h3 := z4g hc (by decide)
        have h4 := z8g ps e
        exact mono (iU (ps ++ [e]) l1.tail) (by omega)
      · rw [if_neg hc]
        simp only [szB]; omega
  · rw [rC]
    split
    · have := zm6 ps
      simp only [szB]; omega
    · have h1 := iR l
      cases hr : rR n l with
      | out => trivial
      | res e s =>
       rw [hr] at h1
       have h2 := zm6 (ps ++ [e])
       have h4 := z8g ps e
       cases s with
       | er y a c => simp only [szB] at h1 ⊢; omega
       | ok l1 =>
        simp only [szB] at h1
        exact mono (iC (ps ++ [e]) l1) (by omega)
  · rw [rR]
    have h1 := iA l
    cases hr : rA n l with
    | out => trivial
    | res e s =>
     rw [hr] at h1
     cases s with
     | er y a c => exact h1
     | ok l1 =>
      simp only [szB] at h1
      exact mono (iQ e l1) (by omega)
  · rw [rQ]
    have kr : ∀ lo hi, sz (z5f lo hi e) = sz e + 1 := fun lo hi => by simp [z5f, sz, szL]; omega
    split
    · rename_i hc
      have h3 := z4g hc (by decide)
      exact mono (iQ _ _) (by rw [kr]; omega)
    split
    · rename_i hc
      have h3 := z4g hc (by decide)
      exact mono (iQ _ _) (by rw [kr]; omega)
    split
    · rename_i hc
      have h3 := z4g hc (by decide)
      exact mono (iQ _ _) (by rw [kr]; omega)
    split
    · rename_i hc
      have h3 := z4g hc (by decide)
      have h1 := zh6 l.tail
      have h5 := z6n l.tail
      cases hq : (zcn l.tail).2.2 with
      | er y a c => simp only [szB]; rw [kr]; omega
      | ok l1 =>
       rw [hq] at h1
       obtain ⟨l2, h2, rfl⟩ := h1
       rw [h2] at h5
       have h6 := List.IsSuffix.length_le (show l2 <:+ l.tail from h5)
       exact mono (iQ _ _) (by rw [kr]; simp only [List.length_tail] at *; omega)
    · simp only [szB]; omega
  · rw [rA]
    split
    · rename_i hc
      have h3 := z4g hc (by decide)
      have h1 := iU [] l.tail
      cases hr : rU n [] l.tail with
      | out => trivial
      | res e s =>
       rw [hr] at h1
       cases s with
       | er y a c => simp only [szB, szL] at h1 ⊢; omega
       | ok l1 =>
        simp only [szB, szL] at h1
        simp only [z4c]
        by_cases hx : nx l1 = 41
        · rw [if_pos hx]
          simp only [szB, List.length_tail] at *; omega
        · rw [if_neg hx]
          simp only [szB]; omega
    split
    · rename_i hc
      have h3 := z4g hc (by decide)
      simp only [szB, one, zaj, sz, szL]; omega
    split
    · rename_i hc
      have h1 := zhb n l
      have h2 := zhr n l hc
      have h3 : ∀ e s, zl0 n l = .res e s → sz e = 1 := fun e s h => by
       unfold zl0 zrx at h
       split at h
       · simp at h
       · simp only [Rs.res.injEq] at h; rw [← h.1]; rfl
       · split at h
         · split at h <;> (simp only [Rs.res.injEq] at h; rw [← h.1]; rfl)
         · simp only [Rs.res.injEq] at h; rw [← h.1]; rfl
      cases hr : zl0 n l with
      | out => trivial
      | res e s =>
       have := h3 e s hr
       rw [hr] at h1
       cases s with
       | er y a c => simp only [szB]; omega
       | ok l1 =>
        rw [show zb1 n l = .ok e l1 from h1] at h2
        have h4 : l1.length < l.length := h2.2
        simp only [szB]; omega
    · have h2 := z9m spA l
      unfold z7u
      cases hp : z6j spA l with
      | out => exact absurd hp z9x
      | err a c => simp only [szB, one, zaj, sz, szL]; omega
      | ok c r =>
       rw [hp] at h2
       have h4 : r.length < l.length := h2.2
       simp only [szB, one, zaj, sz, szL]; omega
end Go.Rx
