/- A part of the proof: AX1, AX2, AX3, AX4, AX5, AX6, AX8, AX9, AX7. -/
set_option linter.all false
set_option linter.unusedVariables false
set_option linter.unusedSimpArgs false
namespace Go.Ax
/-- from, to, state -/
abbrev Arc := Int × Int × Int
structure Au where
 F : List Bool
 A : List (List Arc)
def nxt : List Arc → Int → Int
 | [], _ => -1
 | x :: l, c => if x.1 ≤ c ∧ c ≤ x.2.1 then x.2.2 else nxt l c
def Au.arcs (a : Au) (q : Int) : List Arc := if q < 0 then [] else a.A.getD q.toNat []
def Au.fin (a : Au) (q : Int) : Bool := if q < 0 then false else a.F.getD q.toNat false
def Au.nx (a : Au) (q c : Int) : Int := nxt (a.arcs q) c
def Au.run (a : Au) : Int → List Int → Int
 | q, [] => q
 | q, c :: w => a.run (a.nx q c) w
/-- what is accepted from a state on -/
def Au.acc (a : Au) (q : Int) (w : List Int) : Bool := a.fin (a.run q w)
theorem Au.acc_nil (a : Au) (q : Int) : a.acc q [] = a.fin q := rfl
theorem Au.acc_cons (a : Au) (q c : Int) (w : List Int) : a.acc q (c :: w) = a.acc (a.nx q c) w := rfl
theorem Au.nx_neg (a : Au) {q : Int} (h : q < 0) (c : Int) : a.nx q c = -1 := by rw [nx, arcs, if_pos h]; rfl
theorem Au.acc_neg (a : Au) : ∀ (w : List Int) {q : Int}, q < 0 → a.acc q w = false
 | [], q, h => by rw [acc_nil, fin, if_pos h]
 | c :: w, q, h => by rw [acc_cons, a.nx_neg h c]; exact a.acc_neg w (by decide)
/-- arcs in ascending order, apart from each other and not to be joined -/
def okA : Option Arc → List Arc → Prop
 | _, [] => True
 | p, x :: l => x.1 ≤ x.2.1 ∧ 0 ≤ x.2.2 ∧ (∀ y, p = some y → y.2.1 < x.1 ∧ ¬ (y.2.1 + 1 = x.1 ∧ y.2.2 = x.2.2)) ∧ okA (some x) l
/-- below the first arc there is nothing -/
theorem zfm : ∀ {l : List Arc} {y : Arc}, okA (some y) l → ∀ c, c ≤ y.2.1 → nxt l c = -1
 | [], _, _, _, _ => rfl
 | x :: l, y, h, c, hc => by
  have h1 := (h.2.2.1 y rfl).1
  rw [nxt, if_neg (by omega)]
  exact zfm h.2.2.2 c (by have := h.1; omega)
theorem zub {x : Arc} {l : List Arc} {c : Int} (h1 : x.1 ≤ c) (h2 : c ≤ x.2.1) : nxt (x :: l) c = x.2.2 := by rw [nxt, if_pos ⟨h1, h2⟩]
/-- the places of an automaton in the order in which they are looked at -/
def before (i c j d : Int) : Prop := i < j ∨ i = j ∧ c < d
/-- an automaton in canonical form -/
structure Can (a : Au) : Prop where
 pos : 0 < a.F.length
 len : a.A.length = a.F.length
 ok : ∀ l ∈ a.A, okA none l
 rng : ∀ q c, a.nx q c < a.F.length
 /-- states are met in the order of their numbers -/
 bfs : ∀ j : Int, 1 ≤ j → j < a.F.length → ∃ i c, 0 ≤ i ∧ i < j ∧ a.nx i c = j ∧ ∀ i' c', 0 ≤ i' → before i' c' i c → a.nx i' c' < j
 dif : ∀ i j : Int, 0 ≤ i → i < a.F.length → 0 ≤ j → j < a.F.length → (∀ w, a.acc i w = a.acc j w) → i = j
 live : ∀ i : Int, 0 ≤ i → i < a.F.length → ∃ w, a.acc i w = true
theorem zkz {p : Option Arc} : ∀ {l : List Arc} {p : Option Arc}, okA p l → ∀ c, -1 ≤ nxt l c
 | [], _, _, _ => Int.le_refl _
 | x :: l, p, h, c => by
  rw [nxt]
  split
  · have := h.2.1; omega
  · exact zkz (p := none) h.2.2.2 c
section
variable {a b : Au} (ha : Can a) (hb : Can b) (h0 : ∀ w, a.acc 0 w = b.acc 0 w)
include ha hb
include h0 in
end
end Go.Ax
namespace Go.Ax
/-! joining arcs -/
def z7r : Option Arc → List Arc → Option Arc
 | p, [] => p
 | _, x :: l => z7r (some x) l
theorem z2v : ∀ (l : List Arc) (p : Option Arc) (x : Arc), z7r p (l ++ [x]) = some x
 | [], _, _ => rfl
 | y :: l, p, x => by rw [List.cons_append, z7r, z2v l]
theorem zcx : ∀ {l : List Arc} {p : Option Arc} {x : Arc}, okA p l → x.1 ≤ x.2.1 → 0 ≤ x.2.2 → (∀ y, z7r p l = some y → y.2.1 < x.1 ∧ ¬ (y.2.1 + 1 = x.1 ∧ y.2.2 = x.2.2)) → okA p (l ++ [x])
 | [], p, x, _, h1, h2, h3 => ⟨h1, h2, h3, trivial⟩
 | z :: l, p, x, h, h1, h2, h3 => ⟨h.1, h.2.1, h.2.2.1, zcx h.2.2.2 h1 h2 h3⟩
theorem zh2 : ∀ {l : List Arc} {p : Option Arc} {x : Arc}, okA p (l ++ [x]) → okA p l ∧ x.1 ≤ x.2.1 ∧ 0 ≤ x.2.2 ∧ ∀ y, z7r p l = some y → y.2.1 < x.1 ∧ ¬ (y.2.1 + 1 = x.1 ∧ y.2.2 = x.2.2)
 | [], p, x, h => ⟨trivial, h.1, h.2.1, h.2.2.1⟩
 | z :: l, p, x, h => by
  obtain ⟨h1, h2⟩ := zh2 (l := l) (p := some z) h.2.2.2
  exact ⟨⟨h.1, h.2.1, h.2.2.1, h1⟩, h2⟩
theorem zco : ∀ {l : List Arc} {p : Option Arc}, okA p l → ∀ (m : List Arc) (c : Int), nxt (l ++ m) c = if nxt l c = -1 then nxt m c else nxt l c
 | [], _, _, m, c => by simp [nxt]
 | x :: l, p, h, m, c => by
  rw [List.cons_append, nxt, nxt]
  by_cases hc : x.1 ≤ c ∧ c ≤ x.2.1
  · rw [if_pos hc, if_pos hc, if_neg (by have := h.2.1; omega)]
  · rw [if_neg hc, if_neg hc]
    exact zco h.2.2.2 m c
/-- behind the last arc there is nothing -/
theorem zhh : ∀ {l : List Arc} {p : Option Arc} {y : Arc}, okA p l → z7r p l = some y → (∀ z, p = some z → z = y ∨ z.2.1 < y.1 ∨ True) → ∀ c, y.2.1 < c → nxt l c = -1
 | [], _, _, _, _, _, _, _ => rfl
 | x :: l, p, y, h, hl, _, c, hc => by
  have h1 : nxt l c = -1 := zhh h.2.2.2 hl (fun _ _ => .inr (.inr trivial)) c hc
  have h2 : x.2.1 ≤ y.2.1 := by
   have key : ∀ (l : List Arc) (x y : Arc), okA (some x) l → z7r (some x) l = some y → x.2.1 ≤ y.2.1 := fun l => by
    induction l with
    | nil => intro x y _ h; rw [z7r] at h; cases h; exact Int.le_refl _
    | cons z l ih =>
     intro x y h hl
     have := ih z y h.2.2.2 hl
     have := (h.2.2.1 x rfl).1
     have := h.1
     omega
   exact key l x y h.2.2.2 hl
  rw [nxt, if_neg (by omega)]; exact h1
/-- an arc more, joined to the last one if they belong together -/
def ext (l : List Arc) (f t q : Int) : List Arc := match l.getLast? with
 | some y => if y.2.1 + 1 = f ∧ y.2.2 = q then l.dropLast ++ [(y.1, t, q)] else l ++ [(f, t, q)]
 | none => [(f, t, q)]
theorem ext_nil (f t q : Int) : ext [] f t q = [(f, t, q)] := rfl
theorem z3s (l : List Arc) (y : Arc) (f t q : Int) : ext (l ++ [y]) f t q = if y.2.1 + 1 = f ∧ y.2.2 = q then l ++ [(y.1, t, q)] else l ++ [y] ++ [(f, t, q)] := by
 rw [ext, List.getLast?_append]
 simp
theorem zgh {α : Type} (l : List α) : l = [] ∨ ∃ m x, l = m ++ [x] := by
 rcases List.eq_nil_or_concat l with h | ⟨m, x, h⟩
 · exact .inl h
 · exact .inr ⟨m, x, by rw [h, List.concat_eq_append]⟩
theorem zvp {l : List Arc} {f t q : Int} (h : okA none l) (hft : f ≤ t) (hq : 0 ≤ q) (hl : ∀ y, z7r none l = some y → y.2.1 < f) : okA none (ext l f t q) ∧ z7r none (ext l f t q) ≠ none ∧ (∀ y, z7r none (ext l f t q) = some y → y.2.1 = t) ∧
  ∀ c, nxt (ext l f t q) c = if f ≤ c ∧ c ≤ t then q else nxt l c := by
 rcases zgh l with rfl | ⟨m, y, rfl⟩
 · rw [ext_nil]
   refine ⟨⟨hft, hq, (fun y hy => by cases hy), trivial⟩, by simp [z7r], fun y hy => ?_, fun c => ?_⟩
   · simp only [z7r, Option.some.injEq] at hy; rw [← hy]
   · simp only [nxt]
 · have hy := hl y (z2v _ _ _)
   obtain ⟨h1, h2, h3, h4⟩ := zh2 h
   rw [z3s]
   have hm : ∀ c, y.1 ≤ c → nxt m c = -1 := fun c hc => by
    rcases zgh m with rfl | ⟨m', z, rfl⟩
    · rfl
    · have := (h4 z (z2v _ _ _)).1
      exact zhh h1 (z2v _ _ _) (fun _ _ => .inr (.inr trivial)) c (by omega)
   by_cases hj : y.2.1 + 1 = f ∧ y.2.2 = q
   · rw [if_pos hj]
     refine ⟨zcx h1 (by simp only; omega) (by simp only; omega) (fun z hz => ?_), by rw [z2v]; simp, fun z hz => ?_, fun c => ?_⟩
     · have := h4 z hz
       simp only
       exact ⟨this.1, fun g => this.2 ⟨g.1, by rw [g.2, hj.2]⟩⟩
     · rw [z2v] at hz; cases hz; rfl
     · rw [zco h1, zco h1]
       simp only [nxt]
       by_cases hc : f ≤ c ∧ c ≤ t
       · rw [if_pos hc, if_pos (hm c (by omega)), if_pos (by omega)]
       · rw [if_neg hc]
         by_cases hmc : nxt m c = -1
         · rw [if_pos hmc, if_pos hmc]
           by_cases hc2 : y.1 ≤ c ∧ c ≤ y.2.1
           · rw [if_pos hc2, if_pos (by omega), hj.2]
           · rw [if_neg hc2, if_neg (by omega)]
         · rw [if_neg hmc, if_neg hmc]
   · rw [if_neg hj]
     refine ⟨zcx h (by simpa using hft) (by simpa using hq) (fun z hz => ?_), by rw [z2v]; simp, fun z hz => ?_, fun c => ?_⟩
     · rw [z2v] at hz
       cases hz
       exact ⟨hy, hj⟩
     · rw [z2v] at hz; cases hz; rfl
     · rw [zco h]
       simp only [nxt]
       by_cases hc : f ≤ c ∧ c ≤ t
       · have : nxt (m ++ [y]) c = -1 := zhh h (z2v _ _ _) (fun _ _ => .inr (.inr trivial)) c (by omega)
         rw [if_pos hc, if_pos this, if_pos hc]
       · rw [if_neg hc, if_neg hc]
         split
         · rename_i h5; rw [h5]
         · rfl
/-! edges to keys -/
abbrev Edge (K : Type) := Int × Int × K
def kx {K : Type} : List (Edge K) → Int → Option K
 | [], _ => none
 | e :: l, c => if e.1 ≤ c ∧ c ≤ e.2.1 then some e.2.2 else kx l c
section
variable {K : Type} [DecidableEq K]
def z4n (k : K) : List K → Nat
 | [] => 0
 | x :: l => if x = k then 0 else z4n k l + 1
theorem zd9 {k : K} : ∀ {l : List K}, k ∈ l → z4n k l < l.length ∧ l[z4n k l]? = some k
 | [], h => by simp at h
 | x :: l, h => by
  rw [z4n]
  by_cases hx : x = k
  · rw [if_pos hx]; exact ⟨by simp, by simp [hx]⟩
  · rw [if_neg hx]
    rw [List.mem_cons] at h
    have := zd9 (h.resolve_left fun g => hx g.symm)
    exact ⟨by rw [List.length_cons]; omega, by rw [List.getElem?_cons_succ]; exact this.2⟩
theorem z3r {k : K} : ∀ {l : List K}, k ∉ l → z4n k l = l.length
 | [], _ => rfl
 | x :: l, h => by
  rw [List.mem_cons, not_or] at h
  rw [z4n, if_neg (fun g => h.1 g.symm), z3r h.2]; rfl
theorem zhi {k : K} : ∀ {l m : List K}, k ∈ l → z4n k (l ++ m) = z4n k l
 | [], m, h => by simp at h
 | x :: l, m, h => by
  rw [List.cons_append, z4n, z4n]
  by_cases hx : x = k
  · rw [if_pos hx, if_pos hx]
  · rw [if_neg hx, if_neg hx, zhi ((List.mem_cons.1 h).resolve_left fun g => hx g.symm)]
def z7v (ks : List K) (k : K) : List K := if k ∈ ks then ks else ks ++ [k]
theorem zny (ks : List K) (k : K) : k ∈ z7v ks k := by rw [z7v]; split <;> simp [*]
theorem zsi (ks : List K) (k : K) : z4n k (z7v ks k) = z4n k ks := by
 rw [z7v]; split
 · rfl
 · rename_i h
   rw [z3r h]
   have key : ∀ l : List K, k ∉ l → z4n k (l ++ [k]) = l.length := fun l => by
    induction l with
    | nil => intro _; simp [z4n]
    | cons x l ih =>
     intro h
     rw [List.mem_cons, not_or] at h
     rw [List.cons_append, z4n, if_neg (fun g => h.1 g.symm), ih h.2]; rfl
   exact key ks h
theorem z8t (ks : List K) (k : K) : ∃ r, z7v ks k = ks ++ r := by
 rw [z7v]; split
 · exact ⟨[], by simp⟩
 · exact ⟨[k], rfl⟩
theorem ziu {ks : List K} {k : K} (h : ks.Nodup) : (z7v ks k).Nodup := by
 rw [z7v]; split
 · exact h
 · rename_i hk
   rw [List.nodup_append]
   exact ⟨h, by simp, fun a ha b hb => by rw [List.mem_singleton] at hb; subst hb; exact fun g => hk (g ▸ ha)⟩
/-- one edge -/
def z7x (s : List K × List Arc) (e : Edge K) : List K × List Arc := (z7v s.1 e.2.2, ext s.2 e.1 e.2.1 (z4n e.2.2 s.1 : Nat))
/-- the states that are met from a first one -/
def exL (fin : K → Bool) (edg : K → List (Edge K)) (lim : Nat) : Nat → Nat → List K → Au → Option Au
 | 0, _, _, _ => none
 | n + 1, i, ks, a => match ks[i]? with
  | none => some a
  | some k => if lim < ((edg k).foldl z7x (ks, [])).1.length then none else exL fin edg lim n (i + 1) ((edg k).foldl z7x (ks, [])).1 ⟨a.F ++ [fin k], a.A ++ [((edg k).foldl z7x (ks, [])).2]⟩
end
end Go.Ax
namespace Go.Ax
section
variable {K : Type} [DecidableEq K]
/-- the first i of the keys are done -/
structure Ex (fin : K → Bool) (edg : K → List (Edge K)) (first : K) (i : Nat) (ks : List K) (a : Au) : Prop where
 le : i ≤ ks.length
 fl : a.F.length = i
 al : a.A.length = i
 hd : ks[0]? = some first
 nod : ks.Nodup
 fin_ : ∀ q k, q < i → ks[q]? = some k → a.F[q]? = some (fin k)
 arc : ∀ q k, q < i → ks[q]? = some k → ∃ l, a.A[q]? = some l ∧ okA none l ∧ (∀ c, nxt l c = match kx (edg k) c with | some k' => ((z4n k' ks : Nat) : Int) | none => -1) ∧ ∀ c k', kx (edg k) c = some k' → k' ∈ ks
 bfs : ∀ j : Nat, 1 ≤ j → j < ks.length → ∃ q k c, q < i ∧ q < j ∧ ks[q]? = some k ∧ (∃ k', kx (edg k) c = some k' ∧ ks[j]? = some k') ∧
  ∀ q' k0 c' k', (q' < q ∨ q' = q ∧ c' < c) → ks[q']? = some k0 → kx (edg k0) c' = some k' → z4n k' ks < j
end
end Go.Ax
namespace Go.Ax
def zpk (n : Int) (x : Arc) : Bool := decide (x.1 < 0) || decide (x.1 > x.2.1) || decide (x.2.1 > 1114111) || decide (x.2.2 < 0) || decide (x.2.2 ≥ n)
def zpg (p x : Arc) : Bool := decide (x.1 ≤ p.2.1) || (decide (x.1 = p.2.1 + 1) && decide (x.2.2 = p.2.2))
def zfa (n : Int) : Option Arc → List Arc → Int
 | _, [] => 0
 | p, x :: l => if zpk n x = true then 8 else match p with
  | some y => if zpg y x = true then 6 else zfa n (some x) l
  | none => zfa n (some x) l
theorem zar (n : Int) (p : Option Arc) (x : Arc) (l : List Arc) : zfa n p (x :: l) = if zpk n x = true then 8 else match p with
  | some y => if zpg y x = true then 6 else zfa n (some x) l
  | none => zfa n (some x) l := by cases p <;> rfl
def za4 (n : Int) : List (List Arc) → Int
 | [] => 0
 | l :: A => if zfa n none l ≠ 0 then zfa n none l else za4 n A
/-- the reason why an automaton is not valid -/
def vAu (a : Au) : Int := if 256 < a.F.length then 2 else if a.F.length = 0 ∨ a.A.length ≠ a.F.length then 15 else za4 a.F.length a.A
theorem zd6 : ∀ {n : Int} {l : List Arc} {p : Option Arc}, zfa n p l = 0 → okA p l ∧ ∀ x ∈ l, 0 ≤ x.1 ∧ x.1 ≤ x.2.1 ∧ x.2.1 ≤ 1114111 ∧ 0 ≤ x.2.2 ∧ x.2.2 < n
 | n, [], p, _ => ⟨trivial, by simp⟩
 | n, x :: l, p, h => by
  rw [zar] at h
  split at h
  · cases h
  rename_i hb
  simp only [zpk, Bool.or_eq_true, decide_eq_true_eq, not_or] at hb
  have hx : 0 ≤ x.1 ∧ x.1 ≤ x.2.1 ∧ x.2.1 ≤ 1114111 ∧ 0 ≤ x.2.2 ∧ x.2.2 < n := by omega
  have fin : zfa n (some x) l = 0 → ∀ y ∈ x :: l, 0 ≤ y.1 ∧ y.1 ≤ y.2.1 ∧ y.2.1 ≤ 1114111 ∧ 0 ≤ y.2.2 ∧ y.2.2 < n := fun h y hy => by
   rw [List.mem_cons] at hy
   rcases hy with rfl | hy
   · exact hx
   · exact (zd6 h).2 y hy
  cases p with
  | none =>
   simp only at h
   exact ⟨⟨hx.2.1, hx.2.2.2.1, (fun y hy => by cases hy), (zd6 h).1⟩, fin h⟩
  | some y =>
   simp only at h
   split at h
   · cases h
   · rename_i ho
     simp only [zpg, Bool.or_eq_true, Bool.and_eq_true, decide_eq_true_eq, not_or, not_and] at ho
     refine ⟨⟨hx.2.1, hx.2.2.2.1, fun z hz => ?_, (zd6 h).1⟩, fin h⟩
     cases hz
     refine ⟨by omega, fun g => ?_⟩
     exact ho.2 (by omega) g.2.symm
theorem zhc : ∀ {n : Int} {A : List (List Arc)}, za4 n A = 0 → ∀ l ∈ A, zfa n none l = 0
 | n, [], _, l, hl => by simp at hl
 | n, m :: A, h, l, hl => by
  rw [za4] at h
  split at h
  · rename_i h1; exact absurd h h1
  · rename_i h1
    rw [List.mem_cons] at hl
    rcases hl with rfl | hl
    · exact Classical.not_not.1 h1
    · exact zhc h l hl
structure zy9 (a : Au) : Prop where
 few : a.F.length ≤ 256
 pos : 0 < a.F.length
 len : a.A.length = a.F.length
 arc : ∀ l ∈ a.A, okA none l ∧ ∀ x ∈ l, 0 ≤ x.1 ∧ x.1 ≤ x.2.1 ∧ x.2.1 ≤ 1114111 ∧ 0 ≤ x.2.2 ∧ x.2.2 < a.F.length
theorem zfl {a : Au} (h : vAu a = 0) : zy9 a := by
 rw [vAu] at h
 split at h
 · cases h
 split at h
 · cases h
 · exact ⟨by omega, by omega, by omega, fun l hl => zd6 (zhc h l hl)⟩
end Go.Ax
namespace Go.Ax
/-- the number of arcs that end below a code point -/
def zds (c : Int) : List Arc → Nat
 | [] => 0
 | x :: l => if x.2.1 < c then zds c l + 1 else 0
theorem zlr (c : Int) : ∀ l : List Arc, zds c l ≤ l.length
 | [] => Nat.le_refl _
 | x :: l => by rw [zds]; split <;> simp [zlr c l]
theorem zpz {c : Int} : ∀ {l : List Arc} {p : Nat} {x : Arc}, p < zds c l → l[p]? = some x → x.2.1 < c
 | [], p, x, h, _ => absurd h (Nat.not_lt_zero _)
 | y :: l, p, x, h, hx => by
  rw [zds] at h
  split at h
  · rename_i hy
    cases p with
    | zero => simp only [List.getElem?_cons_zero, Option.some.injEq] at hx; rw [← hx]; exact hy
    | succ p => exact zpz (l := l) (p := p) (by omega) (by rw [List.getElem?_cons_succ] at hx; exact hx)
  · exact absurd h (Nat.not_lt_zero _)
theorem zq0 {c : Int} : ∀ {l : List Arc} {x : Arc}, l[zds c l]? = some x → ¬ x.2.1 < c
 | [], x, h => by simp at h
 | y :: l, x, h => by
  rw [zds] at h
  split at h
  · rw [List.getElem?_cons_succ] at h; exact zq0 h
  · rename_i hy
    simp only [List.getElem?_cons_zero, Option.some.injEq] at h; rw [← h]; exact hy
theorem zgu : ∀ {l : List Arc} {p : Option Arc}, okA p l → ∀ (i j : Nat) (x y : Arc), i ≤ j → l[i]? = some x → l[j]? = some y → x.2.1 ≤ y.2.1
 | [], _, _, i, j, x, y, _, h, _ => by simp at h
 | z :: l, p, h, i, j, x, y, hij, hx, hy => by
  have low : ∀ (l : List Arc) (z : Arc), okA (some z) l → ∀ (j : Nat) (y : Arc), l[j]? = some y → z.2.1 ≤ y.2.1 := fun l => by
   induction l with
   | nil => intro z _ j y h; simp at h
   | cons w l ih =>
    intro z h j y hy
    have h1 := (h.2.2.1 z rfl).1
    have h2 := h.1
    cases j with
    | zero => simp only [List.getElem?_cons_zero, Option.some.injEq] at hy; rw [← hy]; omega
    | succ j => rw [List.getElem?_cons_succ] at hy; have := ih w h.2.2.2 j y hy; omega
  cases i with
  | zero =>
   simp only [List.getElem?_cons_zero, Option.some.injEq] at hx
   subst hx
   cases j with
   | zero => simp only [List.getElem?_cons_zero, Option.some.injEq] at hy; rw [hy]; exact Int.le_refl _
   | succ j => rw [List.getElem?_cons_succ] at hy; exact low l _ h.2.2.2 j y hy
  | succ i =>
   obtain ⟨j, rfl⟩ : ∃ j', j = j' + 1 := ⟨j - 1, by omega⟩
   rw [List.getElem?_cons_succ] at hx hy
   exact zgu h.2.2.2 i j x y (by omega) hx hy
theorem zu9 {c : Int} {l : List Arc} {i : Nat} (hi : i ≤ l.length) (h1 : ∀ p x, p < i → l[p]? = some x → x.2.1 < c) (h2 : ∀ x, l[i]? = some x → ¬ x.2.1 < c) : i = zds c l := by
 have hl := zlr c l
 rcases Nat.lt_trichotomy i (zds c l) with h | h | h
 · obtain ⟨x, hx⟩ : ∃ x, l[i]? = some x := ⟨_, List.getElem?_eq_getElem (by omega)⟩
   exact absurd (zpz h hx) (h2 x hx)
 · exact h
 · obtain ⟨x, hx⟩ : ∃ x, l[zds c l]? = some x := ⟨_, List.getElem?_eq_getElem (by omega)⟩
   exact absurd (h1 _ x h hx) (zq0 hx)
theorem zl0 {c : Int} : ∀ {l : List Arc} {p : Option Arc}, okA p l → nxt l c = match l[zds c l]? with | none => -1 | some x => if c < x.1 then -1 else x.2.2
 | [], _, _ => rfl
 | x :: l, p, h => by
  rw [zds, nxt]
  by_cases hx : x.2.1 < c
  · rw [if_pos hx, if_neg (by omega), List.getElem?_cons_succ]
    exact zl0 h.2.2.2
  · rw [if_neg hx, List.getElem?_cons_zero]
    simp only
    by_cases hc : c < x.1
    · rw [if_neg (by omega), if_pos hc, zfm h.2.2.2 c (by omega)]
    · rw [if_pos (by omega), if_neg hc]
end Go.Ax
namespace Go.Ax
def clA (cl : List Int) (q : Int) : Int := if q < 0 then -1 else cl.getD q.toNat 0
def z8x (cl : List Int) (out : List Arc) (x : Arc) : List Arc := if clA cl x.2.2 < 0 then out else ext out x.1 x.2.1 (clA cl x.2.2)
def byC (cl : List Int) (l : List Arc) : List Arc := l.foldl (z8x cl) []
theorem z9g (l : List Arc) (f t q : Int) : (ext l f t q).length ≤ l.length + 1 := by
 rcases zgh l with rfl | ⟨m, y, rfl⟩
 · simp [ext_nil]
 · rw [z3s]; split <;> simp
theorem ext_mem {l : List Arc} {f t q : Int} {y : Arc} (h : y ∈ ext l f t q) : y.2.1 = t ∨ y ∈ l := by
 rcases zgh l with rfl | ⟨m, z, rfl⟩
 · rw [ext_nil, List.mem_singleton] at h; exact .inl (by rw [h])
 · rw [z3s] at h
   split at h
   · rw [List.mem_append, List.mem_singleton] at h
     rcases h with h | h
     · exact .inr (List.mem_append_left _ h)
     · exact .inl (by rw [h])
   · rw [List.mem_append, List.mem_singleton] at h
     rcases h with h | h
     · exact .inr h
     · exact .inl (by rw [h])
end Go.Ax
namespace Go.Ax
def zna (i : Nat) (xss : List (List Int)) (x : Arc) : List (List Int) := xss.set x.2.2.toNat (xss.getD x.2.2.toNat [] ++ [(i : Int)])
def zqf : Nat → List (List Arc) → List (List Int) → List (List Int)
 | _, [], xss => xss
 | i, l :: A, xss => zqf (i + 1) A (l.foldl (zna i) xss)
theorem zhz (i : Nat) (xss : List (List Int)) (x : Arc) : (zna i xss x).length = xss.length := by simp [zna]
theorem zgx (i : Nat) : ∀ (l : List Arc) (xss : List (List Int)), (l.foldl (zna i) xss).length = xss.length
 | [], _ => rfl
 | x :: l, xss => by rw [List.foldl_cons, zgx i l, zhz]
theorem zof {i : Nat} {xss : List (List Int)} {x : Arc} {s : Nat} (hx : x.2.2.toNat < xss.length) (p : Int) : p ∈ (zna i xss x).getD s [] ↔ p ∈ xss.getD s [] ∨ (x.2.2.toNat = s ∧ p = i) := by
 rw [zna, List.getD, List.getD]
 by_cases h : x.2.2.toNat = s
 · subst h
   rw [List.getElem?_set_self hx]
   simp [List.getD]
 · rw [List.getElem?_set_ne h]
   simp [h]
theorem zib {i s : Nat} {p : Int} : ∀ {l : List Arc} {xss : List (List Int)}, (∀ x ∈ l, x.2.2.toNat < xss.length) → (p ∈ (l.foldl (zna i) xss).getD s [] ↔ p ∈ xss.getD s [] ∨ (∃ x ∈ l, x.2.2.toNat = s) ∧ p = i)
 | [], xss, _ => by simp
 | x :: l, xss, h => by
  rw [List.foldl_cons, zib (fun y hy => by rw [zhz]; exact h y (by simp [hy])), zof (h x (by simp))]
  constructor
  · rintro ((h1 | ⟨h1, h2⟩) | ⟨⟨y, hy, h1⟩, h2⟩)
    · exact .inl h1
    · exact .inr ⟨⟨x, by simp, h1⟩, h2⟩
    · exact .inr ⟨⟨y, by simp [hy], h1⟩, h2⟩
  · rintro (h1 | ⟨⟨y, hy, h1⟩, h2⟩)
    · exact .inl (.inl h1)
    · rw [List.mem_cons] at hy
      rcases hy with rfl | hy
      · exact .inl (.inr ⟨h1, h2⟩)
      · exact .inr ⟨⟨y, hy, h1⟩, h2⟩
theorem zh1 {s : Nat} {p : Int} : ∀ {A : List (List Arc)} {i : Nat} {xss : List (List Int)}, (∀ l ∈ A, ∀ x ∈ l, x.2.2.toNat < xss.length) → (p ∈ (zqf i A xss).getD s [] ↔ p ∈ xss.getD s [] ∨ ∃ k l x, A[k]? = some l ∧ x ∈ l ∧ x.2.2.toNat = s ∧ p = ((i + k : Nat) : Int))
 | [], i, xss, _ => by simp [zqf]
 | l :: A, i, xss, h => by
  rw [zqf, zh1 (fun m hm x hx => by rw [zgx]; exact h m (by simp [hm]) x hx), zib (h l (by simp))]
  constructor
  · rintro ((h1 | ⟨⟨x, hx, h1⟩, h2⟩) | ⟨k, m, x, h1, h2, h3, h4⟩)
    · exact .inl h1
    · exact .inr ⟨0, l, x, rfl, hx, h1, by simpa using h2⟩
    · exact .inr ⟨k + 1, m, x, by simpa using h1, h2, h3, by rw [h4, show i + 1 + k = i + (k + 1) by omega]⟩
  · rintro (h1 | ⟨k, m, x, h1, h2, h3, h4⟩)
    · exact .inl (.inl h1)
    · cases k with
      | zero =>
       simp at h1; subst h1
       exact .inl (.inr ⟨⟨x, h2, h3⟩, by simpa using h4⟩)
      | succ k => exact .inr ⟨k, m, x, by simpa using h1, h2, h3, by rw [h4, show i + 1 + k = i + (k + 1) by omega]⟩
/-- the states that lead to a final one -/
inductive z6y (F : List Bool) (A : List (List Arc)) : Nat → Prop
 | fin (q : Nat) (h : F[q]? = some true) : z6y F A q
 | arc (q : Nat) (l : List Arc) (x : Arc) (h : A[q]? = some l) (hx : x ∈ l) (h2 : z6y F A x.2.2.toNat) : z6y F A q
end Go.Ax
namespace Go.Ax
theorem count_set {l : List Bool} {i : Nat} (h : l[i]? = some false) : (l.set i true).count false + 1 = l.count false := by
 induction l generalizing i with
 | nil => simp at h
 | cons x l ih =>
  cases i with
  | zero => simp at h; subst h; simp
  | succ i =>
   have := ih (i := i) (by simpa using h)
   simp only [List.set_cons_succ, List.count_cons]; omega
/-- what is known while the states are found -/
structure Reach (F : List Bool) (A : List (List Arc)) (X : List (List Int)) (out : List Bool) (stk : List Int) (skip : Nat → Prop) : Prop where
 len : out.length = F.length
 onS : ∀ z ∈ stk, ∃ s : Nat, z = (s : Int) ∧ out[s]? = some true
 sound : ∀ s : Nat, out[s]? = some true → z6y F A s
 fin : ∀ s : Nat, F[s]? = some true → out[s]? = some true
 clos : ∀ s : Nat, out[s]? = some true → (s : Int) ∈ stk ∨ skip s ∨ ∀ p ∈ X.getD s [], out[p.toNat]? = some true
 few : stk.length + out.count false ≤ F.length
theorem Reach.done {F : List Bool} {A : List (List Arc)} {X : List (List Int)} {out : List Bool} (h : Reach F A X out [] fun _ => False)
  (hX : ∀ (s : Nat) (p : Int), p ∈ X.getD s [] ↔ ∃ (k : Nat) (l : List Arc) (x : Arc), A[k]? = some l ∧ x ∈ l ∧ x.2.2.toNat = s ∧ p = k) (q : Nat) : out[q]? = some true ↔ z6y F A q := by
 refine ⟨h.sound q, fun hq => ?_⟩
 induction hq with
 | fin q h1 => exact h.fin q h1
 | arc q l x h1 h2 h3 ih =>
  rcases h.clos _ ih with h4 | h4 | h4
  · simp at h4
  · exact h4.elim
  · have := h4 (q : Int) ((hX _ _).2 ⟨q, l, x, h1, h2, rfl, rfl⟩)
    rwa [Int.toNat_natCast] at this
/-- a state is found -/
theorem Reach.push {F : List Bool} {A : List (List Arc)} {X : List (List Int)} {out : List Bool} {stk : List Int} {skip : Nat → Prop} (h : Reach F A X out stk skip) {p : Nat} (hp : out[p]? = some false) (hl : z6y F A p) : Reach F A X (out.set p true) (stk ++ [(p : Int)]) skip := by
 have hpl := (List.getElem?_eq_some_iff.1 hp).1
 have hc := count_set hp
 have up : ∀ s : Nat, out[s]? = some true → (out.set p true)[s]? = some true := fun s hs => by
  by_cases e : p = s
  · subst e; exact List.getElem?_set_self hpl
  · rw [List.getElem?_set_ne e]; exact hs
 have down : ∀ s : Nat, (out.set p true)[s]? = some true → s = p ∨ out[s]? = some true := fun s hs => by
  by_cases e : p = s
  · exact .inl e.symm
  · rw [List.getElem?_set_ne e] at hs; exact .inr hs
 refine ⟨by rw [List.length_set]; exact h.len, fun z hz => ?_, fun s hs => ?_, fun s hs => up s (h.fin s hs), fun s hs => ?_, ?_⟩
 · rw [List.mem_append, List.mem_singleton] at hz
   rcases hz with hz | rfl
   · obtain ⟨s, h1, h2⟩ := h.onS z hz; exact ⟨s, h1, up s h2⟩
   · exact ⟨p, rfl, List.getElem?_set_self hpl⟩
 · rcases down s hs with rfl | hs
   · exact hl
   · exact h.sound s hs
 · rcases down s hs with rfl | hs
   · exact .inl (by simp)
   · rcases h.clos s hs with h1 | h1 | h1
     · exact .inl (by simp [h1])
     · exact .inr (.inl h1)
     · exact .inr (.inr fun q hq => up _ (h1 q hq))
 · rw [List.length_append, List.length_singleton]
   have := h.few; omega
theorem Reach.pop {F : List Bool} {A : List (List Arc)} {X : List (List Int)} {out : List Bool} {stk : List Int} {s0 : Nat} (h : Reach F A X out (stk ++ [(s0 : Int)]) fun _ => False) : Reach F A X out stk fun s => s = s0 := by
 refine ⟨h.len, fun z hz => h.onS z (by simp [hz]), h.sound, h.fin, fun s hs => ?_, ?_⟩
 · rcases h.clos s hs with h1 | h1 | h1
   · rw [List.mem_append, List.mem_singleton] at h1
     rcases h1 with h1 | h1
     · exact .inl h1
     · exact .inr (.inl (by omega))
   · exact h1.elim
   · exact .inr (.inr h1)
 · have := h.few; rw [List.length_append, List.length_singleton] at this; omega
theorem Reach.shut {F : List Bool} {A : List (List Arc)} {X : List (List Int)} {out : List Bool} {stk : List Int} {s0 : Nat} (h : Reach F A X out stk fun s => s = s0) (hc : ∀ p ∈ X.getD s0 [], out[p.toNat]? = some true) : Reach F A X out stk fun _ => False :=
 ⟨h.len, h.onS, h.sound, h.fin, fun s hs => by
   rcases h.clos s hs with h1 | rfl | h1
   · exact .inl h1
   · exact .inr (.inr hc)
   · exact .inr (.inr h1), h.few⟩
noncomputable def zbm (F : List Bool) (A : List (List Arc)) : List Bool := (List.range F.length).map fun q => @decide (z6y F A q) (Classical.propDecidable _)
theorem zpa {F : List Bool} {A : List (List Arc)} {out : List Bool} (hl : out.length = F.length) (h : ∀ q : Nat, out[q]? = some true ↔ z6y F A q) : out = zbm F A := by
 refine List.ext_getElem (by simp [zbm, hl]) fun i h1 h2 => ?_
 simp only [zbm, List.getElem_map, List.getElem_range]
 have := h i
 rw [List.getElem?_eq_getElem h1] at this
 by_cases hq : z6y F A i
 · simp only [hq, iff_true, Option.some.injEq] at this
   rw [this]; simp [hq]
 · simp only [hq, iff_false, Option.some.injEq] at this
   cases ho : out[i] with
   | true => exact absurd ho this
   | false => simp [hq]
end Go.Ax
namespace Go.Ax
/-! arcs between classes -/
theorem zlj {cl : List Int} (hc : ∀ q, -1 ≤ clA cl q) : ∀ {l : List Arc} {p : Option Arc} {out : List Arc}, okA p l → okA none out → (∀ y z, z7r none out = some y → l.head? = some z → y.2.1 < z.1) →
  okA none (l.foldl (z8x cl) out) ∧ ∀ c, nxt (l.foldl (z8x cl) out) c = if nxt l c = -1 then nxt out c else if nxt out c = -1 then clA cl (nxt l c) else nxt (l.foldl (z8x cl) out) c
 | [], p, out, _, h2, _ => ⟨h2, fun c => by simp [nxt]⟩
 | x :: l, p, out, h1, h2, h3 => by
  have hx := h1.2.2.2
  have hlow : ∀ c, c ≤ x.2.1 → nxt l c = -1 := fun c hc => zfm hx c hc
  rw [List.foldl_cons]
  have hnext : ∀ z, l.head? = some z → x.2.1 < z.1 := fun z hz => by
   cases l with
   | nil => simp at hz
   | cons w l => simp at hz; subst hz; exact (hx.2.2.1 x rfl).1
  rw [z8x]
  by_cases hneg : clA cl x.2.2 < 0
  · rw [if_pos hneg]
    obtain ⟨i1, i2⟩ := zlj hc (out := out) hx h2 (fun y z hy hz => by
     have := h3 y x hy rfl
     have := hnext z hz
     have := h1.1
     omega)
    refine ⟨i1, fun c => ?_⟩
    rw [i2 c, nxt]
    by_cases hcx : x.1 ≤ c ∧ c ≤ x.2.1
    · rw [if_pos hcx, if_pos (hlow c hcx.2), if_neg (by have := h1.2.1; omega)]
      have := hc x.2.2
      by_cases h0 : nxt out c = -1
      · rw [if_pos h0, h0]; omega
      · rw [if_neg h0]
    · rw [if_neg hcx]
      by_cases g1 : nxt l c = -1
      · rw [if_pos g1, if_pos g1]
      · rw [if_neg g1, if_neg g1]
        by_cases g2 : nxt out c = -1 <;> simp [g2]
  · rw [if_neg hneg]
    obtain ⟨e1, e2, e3, e4⟩ := zvp (q := clA cl x.2.2) h2 h1.1 (by omega) (fun y hy => h3 y x hy rfl)
    obtain ⟨i1, i2⟩ := zlj hc (out := ext out x.1 x.2.1 (clA cl x.2.2)) hx e1 (fun y z hy hz => by rw [e3 y hy]; exact hnext z hz)
    refine ⟨i1, fun c => ?_⟩
    by_cases hcx : x.1 ≤ c ∧ c ≤ x.2.1
    · rw [i2 c, if_pos (hlow c hcx.2), e4 c, if_pos hcx, nxt, if_pos hcx, if_neg (by have := h1.2.1; omega)]
      have hout : nxt out c = -1 := by
       rcases zgh out with rfl | ⟨m, y, rfl⟩
       · rfl
       · exact zhh h2 (z2v _ _ _) (fun _ _ => .inr (.inr trivial)) c (by have := h3 y x (z2v _ _ _) rfl; omega)
      rw [if_pos hout]
    · have e5 := e4 c
      rw [if_neg hcx] at e5
      have e6 := i2 c
      rw [e5] at e6
      rw [nxt, if_neg hcx]
      exact e6
theorem ztz {cl : List Int} (hc : ∀ q, -1 ≤ clA cl q) {l : List Arc} (h : okA none l) : okA none (byC cl l) ∧ ∀ c, nxt (byC cl l) c = clA cl (nxt l c) := by
 obtain ⟨h1, h2⟩ := zlj hc (out := []) h trivial (fun y z hy => by simp [z7r] at hy)
 refine ⟨h1, fun c => ?_⟩
 have := h2 c
 rw [byC, this]
 simp only [nxt, if_true]
 split
 · rename_i g; rw [g, clA, if_pos (by decide)]
 · rfl
/-! signatures -/
def toB (xs : List Int) : ByteArray := ⟨(xs.map fun n => UInt8.ofNat n.toNat).toArray⟩
def z5n (n : Int) : List Int := [n / 16777216 % 256, n / 65536 % 256, n / 256 % 256, n % 256]
def ztq (cl : List Int) (k : Int) (l : List Arc) : List Int := z5n k ++ (byC cl l).flatMap fun x => z5n x.1 ++ z5n x.2.1 ++ z5n x.2.2
def isB (b : List Int) : Prop := ∀ c ∈ b, 0 ≤ c ∧ c < 256
theorem zt7 : ∀ {a b : List Int}, isB a → isB b → toB a = toB b → a = b := by
 intro a b ha hb h
 have h1 := congrArg (fun t : ByteArray => t.data.toList) h
 simp only [toB] at h1
 induction a generalizing b with
 | nil => cases b with | nil => rfl | cons y b => simp at h1
 | cons x a ih =>
  cases b with
  | nil => simp at h1
  | cons y b =>
   simp only [List.map_cons, List.cons.injEq] at h1
   obtain ⟨e1, e2⟩ := h1
   have hx := ha x (by simp)
   have hy := hb y (by simp)
   have e3 := congrArg UInt8.toNat e1
   simp only [UInt8.toNat_ofNat'] at e3
   have : x = y := by omega
   rw [this, ih (fun c hc => ha c (by simp [hc])) (fun c hc => hb c (by simp [hc])) (by
    have : (a.map fun n => UInt8.ofNat n.toNat) = b.map fun n => UInt8.ofNat n.toNat := e2
    simp only [toB, this]) e2]
theorem zam (n : Int) : isB (z5n n) := fun c hc => by
 simp only [z5n, List.mem_cons, List.not_mem_nil, or_false] at hc
 omega
theorem zg0 {a b : List Int} (ha : isB a) (hb : isB b) : isB (a ++ b) := fun c hc => by
 rw [List.mem_append] at hc
 exact hc.elim (ha c) (hb c)
theorem zgw (cl : List Int) (k : Int) (l : List Arc) : isB (ztq cl k l) := by
 refine zg0 (zam k) fun c hc => ?_
 rw [List.mem_flatMap] at hc
 obtain ⟨x, _, hx⟩ := hc
 exact zg0 (zg0 (zam _) (zam _)) (zam _) c hx
theorem zah {a b : Int} (ha : 0 ≤ a ∧ a < 4294967296) (hb : 0 ≤ b ∧ b < 4294967296) {x y : List Int} (h : z5n a ++ x = z5n b ++ y) : a = b ∧ x = y := by
 simp only [z5n, List.cons_append, List.nil_append, List.cons.injEq] at h
 obtain ⟨h1, h2, h3, h4, h5⟩ := h
 exact ⟨by omega, h5⟩
def zc1 (l : List Arc) : Prop := ∀ x ∈ l, (0 ≤ x.1 ∧ x.1 < 4294967296) ∧ (0 ≤ x.2.1 ∧ x.2.1 < 4294967296) ∧ (0 ≤ x.2.2 ∧ x.2.2 < 4294967296)
theorem zhs : ∀ {l m : List Arc}, zc1 l → zc1 m → (l.flatMap fun x => z5n x.1 ++ z5n x.2.1 ++ z5n x.2.2) = (m.flatMap fun x => z5n x.1 ++ z5n x.2.1 ++ z5n x.2.2) → l = m
 | [], [], _, _, _ => rfl
 | [], y :: m, _, _, h => by simp [z5n] at h
 | x :: l, [], _, _, h => by simp [z5n] at h
 | x :: l, y :: m, hl, hm, h => by
  rw [List.flatMap_cons, List.flatMap_cons, List.append_assoc, List.append_assoc, List.append_assoc, List.append_assoc] at h
  obtain ⟨x1, x2, x3⟩ := hl x (by simp)
  obtain ⟨y1, y2, y3⟩ := hm y (by simp)
  obtain ⟨e1, h⟩ := zah x1 y1 h
  obtain ⟨e2, h⟩ := zah x2 y2 h
  obtain ⟨e3, h⟩ := zah x3 y3 h
  rw [zhs (fun z hz => hl z (by simp [hz])) (fun z hz => hm z (by simp [hz])) h]
  congr 1
  obtain ⟨a, b, c⟩ := x; obtain ⟨a', b', c'⟩ := y
  simp only at e1 e2 e3; rw [e1, e2, e3]
theorem zrh {cl : List Int} {k k' : Int} {l m : List Arc} (hk : 0 ≤ k ∧ k < 4294967296) (hk' : 0 ≤ k' ∧ k' < 4294967296) (hl : zc1 (byC cl l)) (hm : zc1 (byC cl m)) (h : toB (ztq cl k l) = toB (ztq cl k' m)) : k = k' ∧ byC cl l = byC cl m := by
 have := zt7 (zgw _ _ _) (zgw _ _ _) h
 obtain ⟨e1, e2⟩ := zah hk hk' this
 exact ⟨e1, zhs hl hm e2⟩
/-! a round -/
def sgA (A : List (List Arc)) (cl : List Int) (q : Nat) : ByteArray := toB (ztq cl (cl.getD q 0) (A.getD q []))
def z8r (A : List (List Arc)) (cl : List Int) (s : List ByteArray × List Int) (q : Nat) : List ByteArray × List Int :=
 if cl.getD q 0 < 0 then (s.1, s.2 ++ [-1]) else (z7v s.1 (sgA A cl q), s.2 ++ [((z4n (sgA A cl q) s.1 : Nat) : Int)])
def rnd (A : List (List Arc)) (cl : List Int) : List ByteArray × List Int := (List.range cl.length).foldl (z8r A cl) ([], [])
def zn8 (A : List (List Arc)) (lim : Nat) : Nat → Nat → List Int → Option (List Int)
 | 0, _, _ => none
 | f + 1, c, cl => if lim < (rnd A cl).1.length then none else if (rnd A cl).1.length = c then some (rnd A cl).2 else zn8 A lim f (rnd A cl).1.length (rnd A cl).2
structure RnS (A : List (List Arc)) (cl : List Int) (q : Nat) (s : List ByteArray × List Int) : Prop where
 len : s.2.length = q
 nod : s.1.Nodup
 few : s.1.length ≤ q
 at_ : ∀ p, p < q → (cl.getD p 0 < 0 → s.2[p]? = some (-1)) ∧ (0 ≤ cl.getD p 0 → sgA A cl p ∈ s.1 ∧ s.2[p]? = some ((z4n (sgA A cl p) s.1 : Nat) : Int))
 src : ∀ g ∈ s.1, ∃ p, p < q ∧ 0 ≤ cl.getD p 0 ∧ sgA A cl p = g
theorem RnS.step {A : List (List Arc)} {cl : List Int} {q : Nat} {s : List ByteArray × List Int} (h : RnS A cl q s) : RnS A cl (q + 1) (z8r A cl s q) := by
 rw [z8r]
 by_cases hn : cl.getD q 0 < 0
 · rw [if_pos hn]
   refine ⟨by simp [h.len], h.nod, by have := h.few; simp only; omega, fun p hp => ?_, fun g hg => ?_⟩
   · by_cases hpq : p < q
     · obtain ⟨h1, h2⟩ := h.at_ p hpq
       rw [List.getElem?_append_left (by rw [h.len]; exact hpq)]
       exact ⟨h1, h2⟩
     · obtain rfl : p = q := by omega
       refine ⟨fun _ => ?_, fun g => by omega⟩
       simp only
       rw [List.getElem?_append_right (by rw [h.len]; omega), h.len, Nat.sub_self]; rfl
   · obtain ⟨p, p1, p2⟩ := h.src g hg; exact ⟨p, by omega, p2⟩
 · rw [if_neg hn]
   obtain ⟨r, hr⟩ := z8t s.1 (sgA A cl q)
   refine ⟨by simp [h.len], ziu h.nod, ?_, fun p hp => ?_, fun g hg => ?_⟩
   · have := h.few; simp only [z7v]; split <;> simp <;> omega
   · by_cases hpq : p < q
     · obtain ⟨h1, h2⟩ := h.at_ p hpq
       rw [List.getElem?_append_left (by rw [h.len]; exact hpq)]
       refine ⟨h1, fun g => ?_⟩
       obtain ⟨h3, h4⟩ := h2 g
       simp only
       rw [hr]
       exact ⟨List.mem_append_left _ h3, by rw [zhi h3]; exact h4⟩
     · obtain rfl : p = q := by omega
       refine ⟨fun g => absurd g hn, fun _ => ⟨zny _ _, ?_⟩⟩
       simp only
       rw [List.getElem?_append_right (by rw [h.len]; omega), h.len, Nat.sub_self, zsi]; rfl
   · simp only [z7v] at hg
     split at hg
     · obtain ⟨p, p1, p2⟩ := h.src g hg; exact ⟨p, by omega, p2⟩
     · rw [List.mem_append, List.mem_singleton] at hg
       rcases hg with hg | rfl
       · obtain ⟨p, p1, p2⟩ := h.src g hg; exact ⟨p, by omega, p2⟩
       · exact ⟨q, by omega, by omega, rfl⟩
theorem rnS (A : List (List Arc)) (cl : List Int) : ∀ q, RnS A cl q ((List.range q).foldl (z8r A cl) ([], []))
 | 0 => ⟨rfl, by simp, by simp, fun p hp => absurd hp (Nat.not_lt_zero _), by simp⟩
 | q + 1 => by rw [List.range_succ, List.foldl_append, List.foldl_cons, List.foldl_nil]; exact (rnS A cl q).step
theorem zx4 (A : List (List Arc)) (cl : List Int) : RnS A cl cl.length (rnd A cl) := rnS A cl _
/-- numbers of classes all occur -/
def Full (c : Nat) (cl : List Int) : Prop := ∀ k : Nat, k < c → ∃ q, q < cl.length ∧ cl.getD q 0 = (k : Int)
theorem z3p {l : List Int} {i : Nat} {x : Int} (h : l[i]? = some x) : l.getD i 0 = x := by rw [List.getD, h]; rfl
theorem zpd (A : List (List Arc)) (cl : List Int) : Full (rnd A cl).1.length (rnd A cl).2 := fun k hk => by
 have hR := zx4 A cl
 obtain ⟨g, hg⟩ : ∃ g, (rnd A cl).1[k]? = some g := ⟨_, List.getElem?_eq_getElem hk⟩
 obtain ⟨p, p1, p2, p3⟩ := hR.src g (List.mem_of_getElem? hg)
 obtain ⟨h1, h2⟩ := (hR.at_ p p1).2 p2
 refine ⟨p, by rw [hR.len]; exact p1, ?_⟩
 rw [z3p h2, p3]
 have hm := List.mem_of_getElem? hg
 obtain ⟨i1, i2⟩ := zd9 hm
 have : z4n g (rnd A cl).1 = k := by
  obtain ⟨a1, a2⟩ := List.getElem?_eq_some_iff.1 i2
  obtain ⟨b1, b2⟩ := List.getElem?_eq_some_iff.1 hg
  exact (List.getElem_inj (h₀ := a1) (h₁ := b1) hR.nod).1 (a2.trans b2.symm)
 rw [this]
/-- a list without repetition whose elements lie in another one is not longer -/
theorem zaf {α : Type} [DecidableEq α] : ∀ {l m : List α}, l.Nodup → (∀ x ∈ l, x ∈ m) → l.length ≤ m.length
 | [], m, _, _ => Nat.zero_le _
 | x :: l, m, h, hs => by
  have h1 := List.nodup_cons.1 h
  have hx := hs x (by simp)
  have := zaf (l := l) (m := m.erase x) h1.2 fun y hy => by
   rw [List.mem_erase_of_ne (fun e : y = x => h1.1 (by rw [← e]; exact hy))]
   exact hs y (by simp [hy])
  have h3 := List.length_erase_of_mem hx
  have h4 := List.length_pos_of_mem hx
  rw [List.length_cons]; omega
/-- the classes of the next round's numbers: which class a signature speaks of -/
theorem znl {A : List (List Arc)} {cl : List Int} {c : Nat} (hF : Full c cl) (hs : ∀ q, q < cl.length → cl.getD q 0 < 4294967296) (hsm : ∀ q, q < cl.length → zc1 (byC cl (A.getD q []))) : c ≤ (rnd A cl).1.length ∧
  (c = (rnd A cl).1.length → ∀ p r, p < cl.length → r < cl.length → 0 ≤ cl.getD p 0 → cl.getD p 0 < c → cl.getD p 0 = cl.getD r 0 → sgA A cl p = sgA A cl r) := by
 have hR := zx4 A cl
 -- a signature for each class
 have hw : ∀ k : Nat, ∃ q, k < c → q < cl.length ∧ cl.getD q 0 = (k : Int) := fun k => by
  by_cases hk : k < c
  · obtain ⟨q, h1, h2⟩ := hF k hk; exact ⟨q, fun _ => ⟨h1, h2⟩⟩
  · exact ⟨0, fun h => absurd h hk⟩
 obtain ⟨f, hf⟩ : ∃ f : Nat → Nat, ∀ k, k < c → f k < cl.length ∧ cl.getD (f k) 0 = (k : Int) := ⟨fun k => Classical.choose (hw k), fun k => Classical.choose_spec (hw k)⟩
 have hinj : ∀ p r, p < cl.length → r < cl.length → 0 ≤ cl.getD p 0 → 0 ≤ cl.getD r 0 → sgA A cl p = sgA A cl r → cl.getD p 0 = cl.getD r 0 := fun p r hp hr h1 h2 h => (zrh ⟨h1, hs p hp⟩ ⟨h2, hs r hr⟩ (hsm p hp) (hsm r hr) h).1
 let L := (List.range c).map fun k => sgA A cl (f k)
 have hLn : L.Nodup := by
  show List.Pairwise (· ≠ ·) _
  rw [List.pairwise_map]
  refine List.Pairwise.imp_of_mem ?_ (List.nodup_range (n := c))
  intro a b ha hb hab e
  rw [List.mem_range] at ha hb
  obtain ⟨a1, a2⟩ := hf a ha
  obtain ⟨b1, b2⟩ := hf b hb
  have := hinj _ _ a1 b1 (by omega) (by omega) e
  omega
 have hLs : ∀ x ∈ L, x ∈ (rnd A cl).1 := fun x hx => by
  simp only [L, List.mem_map, List.mem_range] at hx
  obtain ⟨k, hk, rfl⟩ := hx
  obtain ⟨k1, k2⟩ := hf k hk
  exact ((hR.at_ (f k) k1).2 (by omega)).1
 have hLl : L.length = c := by simp [L]
 refine ⟨by have := zaf hLn hLs; omega, fun hc p r hp hr h0 h1 hpr => ?_⟩
 -- then the signatures of the choice are all
 have hall : ∀ x ∈ (rnd A cl).1, x ∈ L := fun x hx => by
  false_or_by_contra
  rename_i hn
  have := zaf (l := x :: L) (m := (rnd A cl).1) (List.nodup_cons.2 ⟨hn, hLn⟩) (fun y hy => by
   rw [List.mem_cons] at hy
   rcases hy with rfl | hy
   · exact hx
   · exact hLs y hy)
  rw [List.length_cons] at this; omega
 have one : ∀ q, q < cl.length → 0 ≤ cl.getD q 0 → sgA A cl q = sgA A cl (f (cl.getD q 0).toNat) := fun q hq h0 => by
  have := hall _ ((hR.at_ q hq).2 h0).1
  simp only [L, List.mem_map, List.mem_range] at this
  obtain ⟨k, hk, he⟩ := this
  obtain ⟨k1, k2⟩ := hf k hk
  have e := hinj _ _ k1 hq (by omega) h0 he
  rw [k2] at e
  rw [← e, Int.toNat_natCast, he]
 rw [one p hp h0, one r hr (by omega), hpr]
end Go.Ax
namespace Go.Ax
theorem znc {l : List Arc} {f t q : Int} {y : Arc} (h : y ∈ ext l f t q) : y ∈ l ∨ (y.2.1 = t ∧ y.2.2 = q ∧ (y.1 = f ∨ ∃ z ∈ l, y.1 = z.1)) := by
 rcases zgh l with rfl | ⟨m, z, rfl⟩
 · rw [ext_nil, List.mem_singleton] at h; subst h; exact .inr ⟨rfl, rfl, .inl rfl⟩
 · rw [z3s] at h
   split at h
   · rw [List.mem_append, List.mem_singleton] at h
     rcases h with h | h
     · exact .inl (List.mem_append_left _ h)
     · subst h; exact .inr ⟨rfl, rfl, .inr ⟨z, by simp, rfl⟩⟩
   · rw [List.mem_append, List.mem_singleton] at h
     rcases h with h | h
     · exact .inl h
     · subst h; exact .inr ⟨rfl, rfl, .inl rfl⟩
theorem zjx {cl : List Int} {B : Int} (hc : ∀ q, clA cl q ≤ B) : ∀ {l out : List Arc}, (∀ x ∈ l, 0 ≤ x.1 ∧ x.1 ≤ x.2.1 ∧ x.2.1 ≤ 1114111) → (∀ y ∈ out, 0 ≤ y.1 ∧ y.1 ≤ 1114111 ∧ 0 ≤ y.2.1 ∧ y.2.1 ≤ 1114111 ∧ 0 ≤ y.2.2 ∧ y.2.2 ≤ B) → ∀ y ∈ l.foldl (z8x cl) out, 0 ≤ y.1 ∧ y.1 ≤ 1114111 ∧ 0 ≤ y.2.1 ∧ y.2.1 ≤ 1114111 ∧ 0 ≤ y.2.2 ∧ y.2.2 ≤ B
 | [], out, _, h2 => h2
 | x :: l, out, h1, h2 => by
  rw [List.foldl_cons]
  refine zjx hc (fun z hz => h1 z (by simp [hz])) fun y hy => ?_
  rw [z8x] at hy
  split at hy
  · exact h2 y hy
  · rename_i hn
    obtain ⟨x1, x2, x3⟩ := h1 x (by simp)
    rcases znc hy with h | ⟨e1, e2, e3⟩
    · exact h2 y h
    · have := hc x.2.2
      rcases e3 with e3 | ⟨z, hz, e3⟩
      · omega
      · have := h2 z hz; omega
theorem zfg {cl : List Int} {B : Int} (hc : ∀ q, clA cl q ≤ B) {l : List Arc} (h1 : ∀ x ∈ l, 0 ≤ x.1 ∧ x.1 ≤ x.2.1 ∧ x.2.1 ≤ 1114111) : ∀ y ∈ byC cl l, 0 ≤ y.1 ∧ y.1 ≤ 1114111 ∧ 0 ≤ y.2.1 ∧ y.2.1 ≤ 1114111 ∧ 0 ≤ y.2.2 ∧ y.2.2 ≤ B := zjx hc h1 (by simp)
theorem zk5 {cl : List Int} : ∀ {l out : List Arc}, (l.foldl (z8x cl) out).length ≤ out.length + l.length
 | [], out => by simp
 | x :: l, out => by
  rw [List.foldl_cons]
  have := zk5 (cl := cl) (l := l) (out := z8x cl out x)
  have h2 : (z8x cl out x).length ≤ out.length + 1 := by
   rw [z8x]; split
   · omega
   · exact z9g _ _ _ _
  simp only [List.length_cons]; omega
theorem zki {cl : List Int} {l : List Arc} : (byC cl l).length ≤ l.length := by have := zk5 (cl := cl) (l := l) (out := []); simpa [byC] using this
structure ClW (n c : Nat) (cl : List Int) : Prop where
 len : cl.length = n
 full : Full c cl
 rng : ∀ x ∈ cl, -1 ≤ x ∧ x ≤ 4000000
 few : c ≤ n
theorem zdk {cl : List Int} (h : ∀ x ∈ cl, -1 ≤ x ∧ x ≤ 4000000) (q : Int) : -1 ≤ clA cl q ∧ clA cl q ≤ 4000000 := by
 rw [clA]
 split
 · omega
 · cases hq : cl[q.toNat]? with
   | none => rw [List.getD, hq]; simp
   | some x => rw [z3p hq]; exact h x (List.mem_of_getElem? hq)
theorem znp {cl : List Int} (h : ∀ x ∈ cl, -1 ≤ x ∧ x ≤ 4000000) (q : Nat) : -1 ≤ cl.getD q 0 ∧ cl.getD q 0 ≤ 4000000 := by
 cases hq : cl[q]? with
 | none => rw [List.getD, hq]; simp
 | some x => rw [z3p hq]; exact h x (List.mem_of_getElem? hq)
theorem zkw {cl : List Int} (h : ∀ x ∈ cl, -1 ≤ x ∧ x ≤ 4000000) {l : List Arc} (h1 : ∀ x ∈ l, 0 ≤ x.1 ∧ x.1 ≤ x.2.1 ∧ x.2.1 ≤ 1114111) : zc1 (byC cl l) := fun y hy => by
 have := zfg (B := 4000000) (fun q => (zdk h q).2) h1 y hy
 omega
theorem zux {A : List (List Arc)} {cl : List Int} {n c : Nat} (hn : n ≤ 4000000) (h : ClW n c cl) (hA : ∀ l ∈ A, ∀ x ∈ l, 0 ≤ x.1 ∧ x.1 ≤ x.2.1 ∧ x.2.1 ≤ 1114111) : c ≤ (rnd A cl).1.length ∧ ClW n (rnd A cl).1.length (rnd A cl).2 := by
 have hR := zx4 A cl
 have hfew := hR.few
 have hl := hR.len
 have hcl := h.len
 refine ⟨(znl h.full (fun q _ => by have := znp h.rng q; omega) (fun q _ => zkw h.rng ?_)).1, by omega, zpd A cl, fun x hx => ?_, by omega⟩
 · cases hq : A[q]? with
   | none => rw [List.getD, hq]; simp
   | some l => rw [List.getD, hq]; exact hA l (List.mem_of_getElem? hq)
 · obtain ⟨p, hp⟩ := List.mem_iff_getElem?.1 hx
   have hpl : p < cl.length := by have := (List.getElem?_eq_some_iff.1 hp).1; omega
   obtain ⟨h1, h2⟩ := hR.at_ p hpl
   by_cases hn0 : cl.getD p 0 < 0
   · rw [h1 hn0] at hp; cases hp; omega
   · obtain ⟨h3, h4⟩ := h2 (by omega)
     rw [h4] at hp; cases hp
     have := (zd9 h3).1
     omega
/-- the first classes -/
noncomputable def cl0 (F : List Bool) (A : List (List Arc)) : List Int := (List.range F.length).map fun q => if (zbm F A).getD q false = true then (if F.getD q false = true then 1 else 0) else -1
theorem zvs (F : List Bool) (A : List (List Arc)) : ClW F.length 0 (cl0 F A) :=
 ⟨by simp [cl0], fun k hk => absurd hk (Nat.not_lt_zero _), fun x hx => by
   simp only [cl0, List.mem_map] at hx
   obtain ⟨q, _, rfl⟩ := hx
   split
   · split <;> omega
   · omega, Nat.zero_le _⟩
noncomputable def ztp (F : List Bool) (A : List (List Arc)) (lim : Nat) : Option (List Int) := zn8 A lim (F.length + 1) 0 (cl0 F A)
end Go.Ax
namespace Go.Ax
theorem zqs : ∀ {l : List Arc} {p : Option Arc}, okA p l → ∀ e ∈ l, e.1 ≤ e.2.1
 | [], _, _, e, he => by simp at he
 | x :: l, p, h, e, he => by
  rw [List.mem_cons] at he
  rcases he with rfl | he
  · exact h.1
  · exact zqs h.2.2.2 e he
theorem zl2 : ∀ {l : List Arc} {y : Arc}, okA (some y) l → ∀ e ∈ l, y.2.1 < e.1
 | [], _, _, e, he => by simp at he
 | x :: l, y, h, e, he => by
  have h1 := (h.2.2.1 y rfl).1
  rw [List.mem_cons] at he
  rcases he with rfl | he
  · exact h1
  · have := zl2 h.2.2.2 e he
    have := h.1; omega
theorem zk2 : ∀ {l : List Arc} {p : Option Arc}, okA p l → ∀ {e : Arc}, e ∈ l → nxt l e.1 = e.2.2
 | [], _, _, e, he => by simp at he
 | x :: l, p, h, e, he => by
  rw [List.mem_cons] at he
  rcases he with rfl | he
  · exact zub (Int.le_refl _) h.1
  · have := zl2 h.2.2.2 e he
    rw [nxt, if_neg (by omega)]
    exact zk2 h.2.2.2 he
theorem zlc {c : Int} : ∀ {l : List Arc}, nxt l c ≠ -1 → ∃ y ∈ l, y.2.2 = nxt l c
 | [], h => absurd rfl h
 | x :: l, h => by
  rw [nxt] at h ⊢
  split
  · exact ⟨x, by simp, rfl⟩
  · rename_i hc
    rw [if_neg hc] at h
    obtain ⟨y, hy, e⟩ := zlc h
    exact ⟨y, by simp [hy], e⟩
end Go.Ax
namespace Go.Ax
theorem zfw {l : List Int} {B : Nat} (h : l.Pairwise (· < ·)) (hr : ∀ z ∈ l, 0 ≤ z ∧ z ≤ B) : l.length ≤ B + 1 := by
 have h1 : l.Nodup := h.imp fun {a b} hab e => by omega
 have := zaf (m := (List.range (B + 1)).map fun k : Nat => (k : Int)) h1 fun x hx => by
  have := hr x hx
  rw [List.mem_map]
  exact ⟨x.toNat, by rw [List.mem_range]; omega, by omega⟩
 simpa using this
end Go.Ax
namespace Go.Ax
def srt (l : List Int) : List Int := l.mergeSort fun x y => decide (x ≤ y)
theorem za8 (l : List Int) : (srt l).Perm l := List.mergeSort_perm l _
theorem zcv (l : List Int) : (srt l).Pairwise (· ≤ ·) := by
 have := List.pairwise_mergeSort (le := fun x y : Int => decide (x ≤ y)) (fun a b c h1 h2 => by simp only [decide_eq_true_eq] at *; omega) (fun a b => by simp only [Bool.or_eq_true, decide_eq_true_eq]; omega) l
 exact this.imp fun h => by simpa using h
theorem zqu {l m : List Int} (h : l.Perm m) (hm : m.Pairwise (· ≤ ·)) : srt l = m :=
 List.Perm.eq_of_pairwise (fun a b _ _ h1 h2 => Int.le_antisymm h1 h2) (zcv l) hm ((za8 l).trans h)
theorem zfp (l : List Int) : (srt l).length = l.length := (za8 l).length_eq
theorem zuh {A B : List Int} {x : Int} (h : (A ++ B).Pairwise (· ≤ ·)) (h1 : ∀ y ∈ A, y ≤ x) (h2 : ∀ y ∈ B, x ≤ y) : (A ++ x :: B).Pairwise (· ≤ ·) := by
 rw [List.pairwise_append] at h ⊢
 refine ⟨h.1, List.pairwise_cons.2 ⟨h2, h.2.1⟩, fun a ha b hb => ?_⟩
 rw [List.mem_cons] at hb
 rcases hb with rfl | hb
 · exact h1 a ha
 · exact h.2.2 a ha b hb
theorem zoz {A : List Int} {y : Int} (h : (A ++ [y]).Pairwise (· ≤ ·)) : ∀ z ∈ A ++ [y], z ≤ y := fun z hz => by
 rw [List.pairwise_append] at h
 rw [List.mem_append, List.mem_singleton] at hz
 rcases hz with hz | rfl
 · exact h.2.2 z hz y (by simp)
 · exact Int.le_refl _
end Go.Ax
namespace Go.Ax
/-- what follows behind x, each run of equal numbers once -/
def cq : Int → List Int → List Int
 | _, [] => []
 | x, y :: l => if x = y then cq y l else y :: cq y l
def cpt : List Int → List Int
 | [] => []
 | x :: l => x :: cq x l
theorem zq9 : ∀ (l : List Int) (x : Int), (x :: l).Pairwise (· ≤ ·) → (x :: cq x l).Pairwise (· < ·) ∧ ∀ z, z ∈ x :: cq x l ↔ z ∈ x :: l
 | [], x, _ => by simp [cq]
 | y :: l, x, h => by
  have h1 := List.pairwise_cons.1 h
  have hxy := h1.1 y (by simp)
  obtain ⟨i1, i2⟩ := zq9 l y h1.2
  rw [cq]
  split
  · rename_i e
    subst e
    exact ⟨i1, fun z => by rw [i2 z]; simp⟩
  · rename_i e
    refine ⟨List.pairwise_cons.2 ⟨fun z hz => ?_, i1⟩, fun z => ?_⟩
    · have hyz : y ≤ z := by
       have := (i2 z).1 hz
       rw [List.mem_cons] at this
       rcases this with rfl | this
       · exact Int.le_refl _
       · exact (List.pairwise_cons.1 h1.2).1 z this
      omega
    · rw [List.mem_cons, i2 z]; simp only [List.mem_cons]
theorem zfe {l : List Int} (h : l.Pairwise (· ≤ ·)) : (cpt l).Pairwise (· < ·) ∧ ∀ z, z ∈ cpt l ↔ z ∈ l := by
 cases l with
 | nil => simp [cpt]
 | cons x l => exact zq9 l x h
theorem zqg : ∀ (l : List Int) (x : Int), (cq x l).length ≤ l.length
 | [], _ => Nat.le_refl _
 | y :: l, x => by rw [cq]; split <;> simp only [List.length_cons] <;> have := zqg l y <;> omega
theorem zkh (l : List Int) : (cpt l).length ≤ l.length := by
 cases l with
 | nil => simp [cpt]
 | cons x l => rw [cpt]; have := zqg l x; simp only [List.length_cons]; omega
end Go.Ax
