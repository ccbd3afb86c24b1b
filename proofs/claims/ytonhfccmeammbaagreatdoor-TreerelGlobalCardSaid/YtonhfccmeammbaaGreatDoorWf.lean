/- What the generator of corpora makes, for every list of numbers. -/
import Derived.Test.YtonhfccmeammbaaGreatDoorWc
import Derived.Test.YtonhfccmeammbaaGreatDoorWe
set_option linter.all false
set_option linter.unusedVariables false
set_option linter.unusedSimpArgs false
namespace Go.Proofs.YtonhfccmeammbaaGreatDoor
open Go.Ab
set_option maxHeartbeats 2000000

/-- a list put behind another one, of which the first j were changed -/
def mid {α : Type} (A B : List α) (f : α → α) (j : Nat) : List α := A ++ ((B.take j).map f ++ B.drop j)
theorem mid_len {α : Type} (A B : List α) (f : α → α) (j : Nat) : (mid A B f j).length = A.length + B.length := by
  simp [mid]; omega
theorem mid_get {α : Type} {A B : List α} {f : α → α} {j : Nat} {x : α} (h : B[j]? = some x) : (mid A B f j)[A.length + j]? = some x := by
  have hj : j < B.length := (List.getElem?_eq_some_iff.1 h).1
  rw [mid, List.getElem?_append_right (by omega), List.getElem?_append_right (by simp; omega)]
  simp only [List.length_map, List.length_take, List.getElem?_drop]
  rw [← h]; congr 1; omega
theorem mid_set {α : Type} {A B : List α} {f : α → α} {j : Nat} {x : α} (h : B[j]? = some x) : (mid A B f j).set (A.length + j) (f x) = mid A B f (j + 1) := by
  have hj : j < B.length := (List.getElem?_eq_some_iff.1 h).1
  rw [mid, mid, List.set_append_right _ _ (by omega), List.set_append_right _ _ (by simp; omega)]
  have e : B.drop j = x :: B.drop (j + 1) := by
    rw [List.drop_eq_getElem_cons hj]; congr 1; exact (List.getElem?_eq_some_iff.1 h).2
  have e2 : B.take (j + 1) = B.take j ++ [x] := by rw [List.take_add_one, h]; rfl
  rw [e, e2]
  simp only [List.length_map, List.length_take, List.map_append, List.map_cons, List.map_nil, List.append_assoc]
  rw [show A.length + j - A.length - min j B.length = 0 by omega]
  rfl
theorem mid_set2 {α : Type} {A B : List α} {f : α → α} {j : Nat} {x y : α} (h : B[j]? = some x) : ((mid A B f j).set (A.length + j) y).set (A.length + j) (f x) = mid A B f (j + 1) := by
  rw [List.set_set, mid_set h]
theorem mid_set3 {α : Type} {A B : List α} {f : α → α} {j : Nat} {x y z : α} (h : B[j]? = some x) : (((mid A B f j).set (A.length + j) y).set (A.length + j) z).set (A.length + j) (f x) = mid A B f (j + 1) := by
  rw [List.set_set, List.set_set, mid_set h]
theorem mid_getset {α : Type} {A B : List α} {f : α → α} {j : Nat} {y : α} (h : j < B.length) : ((mid A B f j).set (A.length + j) y)[A.length + j]? = some y :=
  List.getElem?_set_self (by rw [mid_len]; omega)
theorem mid_getset2 {α : Type} {A B : List α} {f : α → α} {j : Nat} {y z : α} (h : j < B.length) : (((mid A B f j).set (A.length + j) y).set (A.length + j) z)[A.length + j]? = some z := by
  rw [List.set_set]; exact mid_getset h
theorem mid_end {α : Type} (A B : List α) (f : α → α) : mid A B f B.length = A ++ B.map f := by simp [mid]

def shT (n : Int) (t : Text) : Text := ⟨t.name, t.b + n, t.e + n, t.meta_⟩
def shR (n : Int) (t : Region) : Region := ⟨t.type, t.b + n, t.e + n, t.keys⟩
def shN (n m : Int) (t : Node) : Node := ⟨t.label, t.b + n, t.e + n, if 0 ≤ t.parent then t.parent + m else t.parent⟩
def shH (n : Int) (x : Int) : Int := if 0 ≤ x then x + n else x
/-- heads put behind heads, one by one -/
def happ (A B : List Int) (f : Int → Int) : Nat → List Int
  | 0 => A
  | k + 1 => happ A B f k ++ [f (B.getD k 0)]
theorem happ_len (A B : List Int) (f : Int → Int) : ∀ k, (happ A B f k).length = A.length + k
  | 0 => rfl
  | k + 1 => by rw [happ, List.length_append, happ_len A B f k]; rfl
theorem happ_step {A B : List Int} {f : Int → Int} {k : Nat} {x : Int} (h : B[k]? = some x) : happ A B f (k + 1) = happ A B f k ++ [f x] := by
  rw [happ, List.getD, h]; rfl
theorem happ_take (A B : List Int) (f : Int → Int) : ∀ k, k ≤ B.length → happ A B f k = A ++ (B.take k).map f
  | 0, _ => by simp [happ]
  | k + 1, h => by
    obtain ⟨x, hx⟩ : ∃ x, B[k]? = some x := ⟨_, List.getElem?_eq_getElem (by omega)⟩
    rw [happ_step hx, happ_take A B f k (by omega), List.take_add_one, hx]; simp
theorem happ_end (A B : List Int) (f : Int → Int) : happ A B f B.length = A ++ B.map f := by rw [happ_take _ _ _ _ (Nat.le_refl _), List.take_length]
theorem hAll_range {c : Corpus} (h : ∀ x ∈ c.heads, -1 ≤ x ∧ x ≤ 1000000) : ∀ x ∈ hAll c, -1 ≤ x ∧ x ≤ 1000000 := by
  intro x hx
  unfold hAll at hx
  split at hx
  · exact h x hx
  · have := List.eq_of_mem_replicate hx; omega
theorem hAll_len {c : Corpus} (h1 : c.heads.length ≤ 1000000) (h2 : c.tokens.length ≤ 1000000) : (hAll c).length ≤ 1000000 := by
  unfold hAll; split <;> (try simp only [List.length_replicate]) <;> omega
theorem rAll_len {c : Corpus} (h1 : c.rels.length ≤ 1000000) (h2 : c.tokens.length ≤ 1000000) : (rAll c).length ≤ 1000000 := by
  unfold rAll; split <;> (try simp only [List.length_replicate]) <;> omega
/-- what Concat hands back -/
def cat (a b : Corpus) : Corpus where
  attrs := a.attrs
  tokens := a.tokens ++ b.tokens
  texts := mid a.texts b.texts (shT a.tokens.length) b.texts.length
  regions := mid a.regions b.regions (shR a.tokens.length) b.regions.length
  nodes := mid a.nodes b.nodes (shN a.tokens.length a.nodes.length) b.nodes.length
  heads := if 0 < a.heads.length + b.heads.length then happ (hAll a) (hAll b) (shH a.tokens.length) (hAll b).length else []
  rels := if 0 < a.heads.length + b.heads.length then rAll a ++ rAll b else []
def emptyC : Corpus := ⟨[], [], [], [], [], [], []⟩
def IsCat (a b : Corpus) (p : PV) : Prop := (∃ e, e ≠ 0 ∧ p = .tup [emptyC.d, I .i64 e]) ∨ p = .tup [(cat a b).d, I .i64 0]
end Go.Proofs.YtonhfccmeammbaaGreatDoor
namespace Go.Proofs.YtonhfccmeammbaaGreatDoor
open Go.Ab
set_option maxHeartbeats 2000000

/-- corpora that are made, of s documents -/
structure Made (s : Nat) (c : Corpus) : Prop where
  attrs : c.attrs = attrL
  tok0 : 0 < c.tokens.length
  tok1 : c.tokens.length ≤ 10 * s
  tok : ∀ t ∈ c.tokens, t.length ≤ 10 ∧ ∀ v ∈ t, v.size ≤ 10
  ntexts : c.texts.length ≤ 10 * s
  text : ∀ t ∈ c.texts, t.name.size ≤ 10 ∧ SmQ t.meta_ ∧ 0 ≤ t.b ∧ t.b ≤ 1000 * s ∧ 0 ≤ t.e ∧ t.e ≤ 1000 * s
  nregs : c.regions.length ≤ 10 * s
  reg : ∀ x ∈ c.regions, x.type.size ≤ 10 ∧ SmQ x.keys ∧ 0 ≤ x.b ∧ x.b ≤ 1000 * s ∧ 0 ≤ x.e ∧ x.e ≤ 1000 * s
  nodes : ∃ at_, Grp c.tokens.length at_ c.nodes
  nnodes : c.nodes.length ≤ 2000 * s
  heads : Forest c.tokens.length c.heads c.rels
  rels : ∀ s ∈ c.rels, s.size ≤ 10

theorem Doc.made {c : Corpus} {most : Int} (h : Doc most c) (hm : most ≤ 7) : Made 1 c :=
  ⟨h.attrs, h.tok0, by have := h.tok1; omega, h.tok, by have := h.ntexts; omega, fun t ht => by have := h.text t ht; exact ⟨this.1, this.2.1, by omega, by omega, by omega, by omega⟩, by have := h.nregs; omega,
   fun t ht => by have := h.reg t ht; exact ⟨this.1, this.2.1, by omega, by omega, by omega, by omega⟩, h.nodes, by have := h.nnodes; omega, h.heads, h.rels⟩

theorem Grp.le {n a : Int} {ns : List Node} (h : Grp n a ns) (h0 : 0 ≤ n) : 0 ≤ a ∧ a ≤ n := by
  induction h with
  | nil => omega
  | top h1 h2 h3 h4 h5 ih => omega
  | both h1 h2 h3 h4 h5 h6 h7 h8 h9 ih => omega
theorem Grp.bounds {n a : Int} {ns : List Node} (h : Grp n a ns) (h0 : 0 ≤ n) : ∀ (i : Nat) (x : Node), ns[i]? = some x → x.label.size ≤ 10 ∧ 0 ≤ x.b ∧ x.b < x.e ∧ x.e ≤ n ∧ (x.parent = -1 ∨ x.parent = (i : Int) - 1) ∧ -1 ≤ x.parent ∧ x.parent < i := by
  induction h with
  | nil => intro i x hx; simp at hx
  | @top at_ ns b e s h1 h2 h3 h4 h5 ih =>
    have := h1.le h0
    intro i x hx
    by_cases hi : i < ns.length
    · rw [List.getElem?_append_left hi] at hx; exact ih i x hx
    · rw [List.getElem?_append_right (by omega)] at hx
      have hi2 := (List.getElem?_eq_some_iff.1 hx).1
      simp only [List.length_cons, List.length_nil] at hi2
      obtain rfl : i = ns.length := by omega
      simp at hx; subst hx
      exact ⟨h5, by simp only; omega, h3, h4, .inl rfl, by simp only; omega, by simp only; omega⟩
  | @both at_ ns b e m me s t h1 h2 h3 h4 h5 h6 h7 h8 h9 ih =>
    have := h1.le h0
    intro i x hx
    by_cases hi : i < ns.length
    · rw [List.append_assoc, List.getElem?_append_left hi] at hx; exact ih i x hx
    · rw [List.append_assoc, List.getElem?_append_right (by omega)] at hx
      have hi2 := (List.getElem?_eq_some_iff.1 hx).1
      simp only [List.length_cons, List.length_nil, List.cons_append, List.nil_append] at hi2
      rcases (by omega : i = ns.length ∨ i = ns.length + 1) with rfl | rfl
      · simp at hx; subst hx
        exact ⟨h5, by simp only; omega, h3, h4, .inl rfl, by simp only; omega, by simp only; omega⟩
      · rw [show ns.length + 1 - ns.length = 1 by omega] at hx
        simp at hx; subst hx
        exact ⟨h9, by simp only; omega, by simp only; omega, by simp only; omega, .inr (by simp only; omega), by simp only; omega, by simp only; omega⟩

theorem Grp.more {n n' a : Int} {ns : List Node} (h : Grp n a ns) (hn : n ≤ n') : Grp n' a ns := by
  induction h with
  | nil => exact .nil
  | top h1 h2 h3 h4 h5 ih => exact .top ih h2 h3 (by omega) h5
  | both h1 h2 h3 h4 h5 h6 h7 h8 h9 ih => exact .both ih h2 h3 (by omega) h5 h6 h7 h8 h9
theorem shN_top {n m : Int} {s : Str} {b e : Int} : shN n m ⟨s, b, e, -1⟩ = ⟨s, b + n, e + n, -1⟩ := rfl
theorem Grp.cat {n m : Int} {a a' : Int} {ns ms : List Node} (h : Grp n a ns) (h' : Grp m a' ms) (hn : 0 ≤ n) (hm : 0 ≤ m) : ∃ q, Grp (n + m) q (ns ++ ms.map (shN n ns.length)) ∧ (ms = [] → q ≤ a' + n) ∧ q ≤ a' + n := by
  induction h' with
  | nil => have := h.le hn; exact ⟨a, by simpa using h.more (by omega), fun _ => by omega, by omega⟩
  | @top at_ ms b e s h1 h2 h3 h4 h5 ih =>
    obtain ⟨q, hq, _, hle⟩ := ih
    refine ⟨e + n, ?_, fun _ => by omega, by omega⟩
    have := Grp.top (b := b + n) (e := e + n) (s := s) hq (by omega) (by omega) (by omega) h5
    simpa [List.map_append, shN_top, List.append_assoc] using this
  | @both at_ ms b e p pe s t h1 h2 h3 h4 h5 h6 h7 h8 h9 ih =>
    obtain ⟨q, hq, _, hle⟩ := ih
    refine ⟨e + n, ?_, fun _ => by omega, by omega⟩
    have := Grp.both (b := b + n) (e := e + n) (m := p + n) (me := pe + n) (s := s) (t := t) hq (by omega) (by omega) (by omega) h5 (by omega) (by omega) (by omega) h9
    have e2 : shN n ns.length ⟨t, p, pe, ms.length⟩ = ⟨t, p + n, pe + n, ((ns ++ ms.map (shN n ns.length)).length : Int)⟩ := by
      simp only [shN]
      rw [if_pos (by omega)]
      simp only [List.length_append, List.length_map, Node.mk.injEq, true_and]
      omega
    simp only [List.map_append, List.map_cons, List.map_nil, shN_top, e2]
    simpa [List.append_assoc] using this

/-- all tokens stand in the order of a forest -/
theorem all_in {n : Nat} {ord : List Int} (h1 : ord.length = n) (h2 : ord.Nodup) (h3 : ∀ x ∈ ord, 0 ≤ x ∧ x < n) (i : Nat) (hi : i < n) : (i : Int) ∈ ord := by
  by_cases h : (i : Int) ∈ ord
  · exact h
  · exfalso
    have hnd : ((i :: ord.map Int.toNat)).Nodup := by
      refine List.nodup_cons.2 ⟨fun hm => ?_, ?_⟩
      · obtain ⟨x, hx, e⟩ := List.mem_map.1 hm
        have := h3 x hx
        exact h (by rw [show (i : Int) = x by omega]; exact hx)
      · have : (ord.map Int.toNat).Pairwise (· ≠ ·) := by
          rw [List.pairwise_map]
          refine List.Pairwise.imp_of_mem ?_ h2
          intro a b ha hb hab e
          have := h3 a ha; have := h3 b hb
          exact hab (by omega)
        exact this
    have := nodup_lt_length n _ hnd (fun x hx => by
      rcases List.mem_cons.1 hx with rfl | hx
      · exact hi
      · obtain ⟨y, hy, rfl⟩ := List.mem_map.1 hx
        have := h3 y hy; omega)
    simp at this; omega

/-- heads that are there or not, as a forest that is there -/
theorem forest_all {n : Nat} {c : Corpus} (hn : c.tokens.length = n) (h : Forest n c.heads c.rels) : (hAll c).length = n ∧ (rAll c).length = n ∧ ∃ ord : List Int, ord.length = n ∧ ord.Nodup ∧ (∀ x ∈ ord, 0 ≤ x ∧ x < n) ∧
    ∀ (p : Nat) (x : Int), ord[p]? = some x → ∃ h : Int, (hAll c)[x.toNat]? = some h ∧ (h = -1 ∨ ∃ q : Nat, q < p ∧ ord[q]? = some h) := by
  by_cases h0 : 0 < c.heads.length
  · rcases h with ⟨e, _⟩ | ⟨h1, h2, h3⟩
    · rw [e] at h0; simp at h0
    · simp only [hAll, rAll, if_pos h0]; exact ⟨h1, h2, h3⟩
  · simp only [hAll, rAll, if_neg h0]
    refine ⟨by simp [hn], by simp [hn], (List.range n).map Int.ofNat, by simp, ?_, ?_, ?_⟩
    · show List.Pairwise _ _
      rw [List.pairwise_map]
      exact List.Pairwise.imp (fun hab e => hab (Int.ofNat.inj e)) (List.nodup_range (n := n))
    · intro x hx
      obtain ⟨y, hy, rfl⟩ := List.mem_map.1 hx
      have := List.mem_range.1 hy
      simp only [Int.ofNat_eq_natCast]; omega
    · intro p x hx
      have hx' := List.mem_of_getElem? hx
      obtain ⟨y, hy, rfl⟩ := List.mem_map.1 hx'
      have := List.mem_range.1 hy
      refine ⟨-1, ?_, .inl rfl⟩
      simp only [Int.ofNat_eq_natCast, Int.toNat_natCast]
      rw [List.getElem?_replicate, if_pos (by omega)]
theorem Forest.cat {a b : Corpus} (ha : Forest a.tokens.length a.heads a.rels) (hb : Forest b.tokens.length b.heads b.rels) : Forest (a.tokens.length + b.tokens.length) (cat a b).heads (cat a b).rels := by
  by_cases h0 : 0 < a.heads.length + b.heads.length
  · simp only [Proofs.YtonhfccmeammbaaGreatDoor.cat, if_pos h0]
    obtain ⟨a1, a2, oa, a3, a4, a5, a6⟩ := forest_all rfl ha
    obtain ⟨b1, b2, ob, b3, b4, b5, b6⟩ := forest_all rfl hb
    generalize a.tokens.length = n at *
    generalize b.tokens.length = m at *
    rw [happ_end]
    refine .inr ⟨by simp [a1, b1], by simp [a2, b2], oa ++ ob.map (fun x => x + (n : Int)), by simp [a3, b3], ?_, ?_, ?_⟩
    · rw [List.nodup_append]
      refine ⟨a4, ?_, ?_⟩
      · show List.Pairwise _ _
        rw [List.pairwise_map]
        exact List.Pairwise.imp (fun hab e => hab (by omega)) b4
      · intro x hx y hy
        obtain ⟨z, hz, rfl⟩ := List.mem_map.1 hy
        have := a5 x hx; have := b5 z hz; omega
    · intro x hx
      rcases List.mem_append.1 hx with hx | hx
      · have := a5 x hx; omega
      · obtain ⟨z, hz, rfl⟩ := List.mem_map.1 hx
        have := b5 z hz; omega
    · intro p x hx
      by_cases hp : p < n
      · rw [List.getElem?_append_left (by omega)] at hx
        have hr := a5 x (List.mem_of_getElem? hx)
        obtain ⟨h, h1, h2⟩ := a6 p x hx
        refine ⟨h, by rw [List.getElem?_append_left (by omega)]; exact h1, ?_⟩
        rcases h2 with h2 | ⟨q, hq, h2⟩
        · exact .inl h2
        · exact .inr ⟨q, hq, by rw [List.getElem?_append_left (by omega)]; exact h2⟩
      · rw [List.getElem?_append_right (by omega), a3, List.getElem?_map] at hx
        cases hz : ob[p - n]? with
        | none => simp [hz] at hx
        | some z =>
          rw [hz] at hx; simp at hx; subst hx
          have hr := b5 z (List.mem_of_getElem? hz)
          obtain ⟨h, h1, h2⟩ := b6 _ z hz
          refine ⟨shH n h, ?_, ?_⟩
          · rw [List.getElem?_append_right (by omega), a1, List.getElem?_map, show (z + (n : Int)).toNat - n = z.toNat by omega, h1]; rfl
          · rcases h2 with rfl | ⟨q, hq, h2⟩
            · exact .inl rfl
            · have hh := b5 h (List.mem_of_getElem? h2)
              refine .inr ⟨q + n, by omega, ?_⟩
              rw [List.getElem?_append_right (by omega), a3, List.getElem?_map, show q + n - n = q by omega, h2]
              simp only [Option.map_some, shH, if_pos hh.1]
  · simp only [Proofs.YtonhfccmeammbaaGreatDoor.cat, if_neg h0]
    exact .inl ⟨rfl, rfl⟩

theorem Made.cat {s t : Nat} {a b : Corpus} (ha : Made s a) (hb : Made t b) : Made (s + t) (cat a b) := by
  have e1 := ha.tok1
  have e2 := hb.tok1
  refine ⟨ha.attrs, ?_, ?_, ?_, ?_, ?_, ?_, ?_, ?_, ?_, ?_, ?_⟩
  · simp only [Proofs.YtonhfccmeammbaaGreatDoor.cat, List.length_append]; have := ha.tok0; omega
  · simp only [Proofs.YtonhfccmeammbaaGreatDoor.cat, List.length_append]; omega
  · intro x hx
    simp only [Proofs.YtonhfccmeammbaaGreatDoor.cat] at hx
    rcases List.mem_append.1 hx with hx | hx
    · exact ha.tok x hx
    · exact hb.tok x hx
  · simp only [Proofs.YtonhfccmeammbaaGreatDoor.cat, mid_len]; have := ha.ntexts; have := hb.ntexts; omega
  · intro x hx
    simp only [Proofs.YtonhfccmeammbaaGreatDoor.cat, mid_end] at hx
    rcases List.mem_append.1 hx with hx | hx
    · have := ha.text x hx; exact ⟨this.1, this.2.1, by omega, by omega, by omega, by omega⟩
    · obtain ⟨y, hy, rfl⟩ := List.mem_map.1 hx
      have := hb.text y hy; exact ⟨this.1, this.2.1, by simp only [shT]; omega, by simp only [shT]; omega, by simp only [shT]; omega, by simp only [shT]; omega⟩
  · simp only [Proofs.YtonhfccmeammbaaGreatDoor.cat, mid_len]; have := ha.nregs; have := hb.nregs; omega
  · intro x hx
    simp only [Proofs.YtonhfccmeammbaaGreatDoor.cat, mid_end] at hx
    rcases List.mem_append.1 hx with hx | hx
    · have := ha.reg x hx; exact ⟨this.1, this.2.1, by omega, by omega, by omega, by omega⟩
    · obtain ⟨y, hy, rfl⟩ := List.mem_map.1 hx
      have := hb.reg y hy; exact ⟨this.1, this.2.1, by simp only [shR]; omega, by simp only [shR]; omega, by simp only [shR]; omega, by simp only [shR]; omega⟩
  · obtain ⟨p, hp⟩ := ha.nodes
    obtain ⟨q, hq⟩ := hb.nodes
    obtain ⟨r, hr, _⟩ := hp.cat hq (by omega) (by omega)
    refine ⟨r, ?_⟩
    simp only [Proofs.YtonhfccmeammbaaGreatDoor.cat, mid_end, List.length_append]
    exact hr
  · simp only [Proofs.YtonhfccmeammbaaGreatDoor.cat, mid_len]; have := ha.nnodes; have := hb.nnodes; omega
  · have := ha.heads.cat hb.heads
    rwa [show (Proofs.YtonhfccmeammbaaGreatDoor.cat a b).tokens.length = a.tokens.length + b.tokens.length by simp [Proofs.YtonhfccmeammbaaGreatDoor.cat]]
  · intro x hx
    simp only [Proofs.YtonhfccmeammbaaGreatDoor.cat] at hx
    split at hx
    · rcases List.mem_append.1 hx with hx | hx
      · unfold rAll at hx
        split at hx
        · exact ha.rels x hx
        · have := List.eq_of_mem_replicate hx; subst this; decide
      · unfold rAll at hx
        split at hx
        · exact hb.rels x hx
        · have := List.eq_of_mem_replicate hx; subst this; decide
    · cases hx

theorem Forest.len {n : Nat} {hs : List Int} {rs : List Str} (h : Forest n hs rs) : hs.length ≤ n ∧ rs.length ≤ n ∧ rs.length = hs.length ∧ (hs = [] ∨ hs.length = n) := by
  rcases h with ⟨rfl, rfl⟩ | ⟨h1, h2, _⟩
  · simp
  · omega
theorem Forest.range {n : Nat} {hs : List Int} {rs : List Str} (h : Forest n hs rs) : ∃ rank : Nat → Nat, ∀ (i : Nat) (h : Int), hs[i]? = some h → h = -1 ∨ (0 ≤ h ∧ h.toNat < n ∧ rank h.toNat < rank i ∧ rank i < n) := by
  rcases h with ⟨rfl, rfl⟩ | ⟨h1, h2, ord, o1, o2, o3, o4⟩
  · exact ⟨fun _ => 0, fun i h hi => by simp at hi⟩
  · refine ⟨fun i => ord.idxOf (i : Int), fun i h hi => ?_⟩
    have hi' : i < n := by have := (List.getElem?_eq_some_iff.1 hi).1; omega
    have hm := all_in o1 o2 o3 i hi'
    have hp : ord[ord.idxOf (i : Int)]? = some (i : Int) := by
      have := List.idxOf_lt_length_of_mem hm
      rw [List.getElem?_eq_getElem this]; simp
    obtain ⟨h', e1, e2⟩ := o4 _ _ hp
    rw [Int.toNat_natCast, hi] at e1
    simp at e1; subst e1
    rcases e2 with e2 | ⟨q, hq, e2⟩
    · exact .inl e2
    · have hr := o3 h (List.mem_of_getElem? e2)
      have hql := (List.getElem?_eq_some_iff.1 e2).1
      refine .inr ⟨hr.1, by omega, ?_, by have := List.idxOf_lt_length_of_mem hm; simp only; omega⟩
      have : ord.idxOf ((h.toNat : Nat) : Int) = q := by
        rw [show ((h.toNat : Nat) : Int) = h by omega]
        have hm' := List.mem_of_getElem? e2
        have hlt := List.idxOf_lt_length_of_mem hm'
        have e3 := (List.getElem?_eq_some_iff.1 e2).2
        have e4 : ord[ord.idxOf h] = h := by simp
        exact (List.getElem_inj o2).1 (e4.trans e3.symm)
      simp only [this]; exact hq

theorem Made.wf {s : Nat} {c : Corpus} (h : Made s c) (hs : s ≤ 10) : Wf c :=
  ⟨by have := h.tok1; omega, h.tok0, h.heads.len.2.2.1, h.heads.len.2.2.2, h.heads.range⟩
theorem attr_sm : ∀ a ∈ attrL, a.name.size ≤ 1000000 := by simp only [attrL, List.mem_cons, List.not_mem_nil, or_false]; rintro s (rfl | rfl | rfl) <;> decide
theorem Made.small {s : Nat} {c : Corpus} (h : Made s c) (hs : s ≤ 10) : Small c := by
  have h1 := h.tok1
  have h2 := h.heads.len
  obtain ⟨a, ha⟩ := h.nodes
  refine ⟨by omega, by have := h.ntexts; omega, ?_, by have := h.nregs; omega, by have := h.nnodes; omega, by omega, by omega, ?_, ?_, ?_, ?_, ?_, ?_⟩
  · rw [h.attrs]; decide
  · rw [h.attrs]; exact attr_sm
  · intro t ht; have := h.tok t ht; exact ⟨by omega, fun v hv => by have := this.2 v hv; omega⟩
  · intro t ht; have := h.text t ht; exact ⟨by omega, this.2.1.p, by omega, by omega, by omega, by omega⟩
  · intro t ht; have := h.reg t ht; exact ⟨by omega, this.2.1.p, by omega, by omega, by omega, by omega⟩
  · intro x hx
    obtain ⟨i, hi⟩ := List.getElem?_of_mem hx
    have := ha.bounds (by omega) i x hi
    have := h.nnodes
    have := (List.getElem?_eq_some_iff.1 hi).1
    exact ⟨by omega, by omega, by omega, by omega, by omega, by omega, by omega⟩
  · intro x hx; have := h.rels x hx; omega
end Go.Proofs.YtonhfccmeammbaaGreatDoor
namespace Go.Proofs.YtonhfccmeammbaaGreatDoor
open Go.Ab
set_option maxHeartbeats 20000000
attribute [local irreducible] Run Ops Op1 Does Val Tr PureF Eff1 NF Rel
theorem concat_n (a b : Corpus) (ha : Small a) (hb : Small b) (hpa : ∀ (i : Nat) (x : Node), a.nodes[i]? = some x → -1 ≤ x.parent ∧ x.parent < i) (hpb : ∀ (i : Nat) (x : Node), b.nodes[i]? = some x → -1 ≤ x.parent ∧ x.parent < i) (hh : ∀ x ∈ b.heads, -1 ≤ x ∧ x ≤ 1000000) : NF Tryz.prog 27 [a.d, b.d] (IsCat a b) := by
  refine nf_of fun H => ?_
  refine spec_of Tryz.func27 (by kernel_rfl) rfl (by simp) ?_
  dsimp only [Tryz.f27]
  have ha1 := ha.toks
  have hb1 := hb.toks
  have ha2 := ha.ntexts
  have hb2 := hb.ntexts
  have ha3 := ha.nregs
  have hb3 := hb.nregs
  have ha4 := ha.nnodes
  have hb4 := hb.nnodes
  have ha5 := ha.nheads
  have hb5 := hb.nheads
  have ha6 := ha.nattrs
  have ha7 := hAll_len ha5 ha1
  have hb7 := hAll_len hb5 hb1
  have ha8 := rAll_len ha.nrels ha1
  have hb8 := rAll_len hb.nrels hb1
  repeat' (first | (refine k_op1 ?_; (first | refine o_sv rfl (by decide) ?_ | (refine k_load ?_; (first | refine o_val (v_loada rfl rfl rfl) rfl rfl (by decide) ?_ | refine o_val (v_load rfl rfl rfl rfl) rfl rfl (by decide) ?_)) | (refine k_field ?_; (refine o_val (v_field rfl rfl) rfl rfl (by decide) ?_)) | (refine k_blt ?_; (refine o_val (v_lenm rfl) rfl rfl (by decide) ?_)) | (refine k_call ?_; (first | (refine o_nf (valid_s a ha hpa) rfl (by decide) (fun p hp => ?_); obtain ⟨_, rfl⟩ := hp) | (refine o_nf (valid_s b hb hpb) rfl (by decide) (fun p hp => ?_); obtain ⟨_, rfl⟩ := hp) | (refine o_nf (sameAttrs_s _ _ ha.nattrs hb.nattrs) rfl (by decide) (fun p hp => ?_); obtain ⟨_, rfl⟩ := hp))) | (refine k_store ?_; (refine o_store0 rfl rfl rfl rfl rfl rfl ?_)) | (refine k_alloc ?_; (refine o_does (d_alloc rfl rfl (by decide)) ?_)) | (refine k_box ?_; (refine o_does (d_box_d rfl rfl (by decide)) ?_)) | (refine k_build ?_; (refine o_build rfl rfl rfl rfl rfl rfl rfl (by decide) ?_)))) | (refine k_ops ?_; (first | refine o_go (by first | exact .inl rfl | exact .inr ⟨_, _, _, rfl, rfl, rfl⟩) ?_ | (refine ko_nil ?_; refine o_nilk [0, 1, 2, 3, 4, 5, 7, 8, 9, 10, 11, 12, 13, 14, 15, 16, 17, 19, 27, 34, 37, 38, 39, 40, 47, 89, 116, 153, 188, 217, 235, 254, 255, 256, 257, 261, 100500, 100501] (by repeat' (first | exact Keep.nil | apply Keep.yes rfl | apply Keep.no)) (by repeat' (first | exact KeepH.nil | apply KeepH.old rfl | apply KeepH.gone | apply KeepH.new rfl)) ?_) | refine o_no rfl rfl (by decide) ?_ | refine o_case rfl rfl (fun _ => ?_) (fun _ => ?_))) | (refine k_run ?_; (first | refine r_seq ?_ | refine r_region ?_ | refine r_true rfl ?_ | refine r_skip ?_ | refine r_block ?_ | refine r_cond rfl (fun _ => ?_) (fun _ => ?_))))
  all_goals try (first | (first | exact r_ret Tryz.func27 _ (res_cell_one rfl rfl rfl rfl rfl rfl rfl) ⟨_, rfl, Or.inl ⟨_, (by decide), rfl⟩, rfl⟩ | (have e0 : ¬ 0 < a.heads.length + b.heads.length := (by omega); exact r_ret Tryz.func27 _ (res_cell_one rfl rfl rfl rfl rfl rfl rfl) ⟨_, rfl, Or.inr (by rw [cat, if_neg e0, if_neg e0]; rfl), rfl⟩) | (have e0 : 0 < a.heads.length + b.heads.length := (by omega); exact r_ret Tryz.func27 _ (res_cell_one rfl rfl rfl rfl rfl rfl rfl) ⟨_, rfl, Or.inr (by rw [cat, if_pos e0, if_pos e0]; rfl), rfl⟩)) | (exfalso; (try clear ih1); (try clear ih2); (try clear ih3); (try clear ih4); (try clear ih5); (try clear hm12); omega) | ((fail_if_success (refine r_loop ?_)); exfalso; (try clear ih1); (try clear ih2); (try clear ih3); (try clear ih4); (try clear ih5); (try clear hm12); simp_all; done))
  all_goals
    refine r_loop ?_
    refine r_less (r_inv (fun k1 : Nat => ⟨273, [(2, PV.ptr (0, 2) 0), (3, PV.ptr (0, 3) 0), (4, PV.ptr (0, 4) 0), (37, PV.d (D.slice (List.map Text.cs b.texts))), (38, I IntKind.i64 (↑b.texts.length : Int)), (39, I .i64 (k1 : Nat))], [(2, Blk.box (List.map PV.d a.cs)), (3, Blk.box (List.map PV.d b.cs)), (4, Blk.box (zeroP ({ size := 7, bytes := 168, kind := TK.struct, fields := [(0, 1), (1, 1), (2, 1), (3, 1), (4, 1), (5, 1), (6, 1)], zero := [nilS, nilS, nilS, nilS, nilS, nilS, nilS] } : TI).zero))], H⟩) (fun k1 : Nat => k1 ≤ b.texts.length) (fun k1 : Nat => b.texts.length - k1) ?_ 0 (Nat.zero_le _)) rfl rfl
    intro k1 hk1 ih1
    by_cases hlt1 : k1 < b.texts.length
    case pos =>
      obtain ⟨x1, hx1⟩ : ∃ x, b.texts[k1]? = some x := ⟨_, List.getElem?_eq_getElem (by omega)⟩
      repeat' (first | (refine k_op1 ?_; (first | refine o_sv rfl (by decide) ?_ | (refine k_load ?_; (first | refine o_val (v_loada rfl rfl rfl) rfl rfl (by decide) ?_ | refine o_val (v_load rfl rfl rfl rfl) rfl rfl (by decide) ?_ | refine o_val (v_loadea rfl rfl) rfl rfl (by decide) ?_)) | (refine k_field ?_; (refine o_val (v_field rfl rfl) rfl rfl (by decide) ?_)) | (refine k_index ?_; (refine o_val (v_index rfl (by omega) (idx hx1) rfl) rfl rfl (by decide) ?_)) | (refine k_bin ?_; (refine o_val (v_add (wi64 (by omega) (by omega))) rfl rfl (by decide) ?_)) | (refine k_blt ?_; (first | (refine o_appn (d := 93) rfl rfl rfl (fun _ => rfl) (by decide) rfl (by decide) (by omega) ?_; refine o_freeze 93 rfl ?_) | refine o_val (v_lenm rfl) rfl rfl (by decide) ?_)) | (refine k_call ?_; ((refine o_nf (findText_s _ _ ha) rfl (by decide) (fun p hp => ?_); obtain ⟨_, rfl⟩ := hp))) | (refine k_store ?_; (refine o_store0 rfl rfl rfl rfl rfl rfl ?_)) | (refine k_alloc ?_; (refine o_does (d_alloc rfl rfl (by decide)) ?_)) | (refine k_build ?_; (refine o_build rfl rfl rfl rfl rfl rfl rfl (by decide) ?_)))) | (refine k_ops ?_; (first | refine o_go (by first | exact .inl rfl | exact .inr ⟨_, _, _, rfl, rfl, rfl⟩) ?_ | (refine ko_nil ?_; refine o_nilk [0, 1, 2, 3, 4, 5, 7, 8, 9, 10, 11, 12, 13, 14, 15, 16, 17, 19, 27, 34, 37, 38, 39, 40, 47, 89, 116, 153, 188, 217, 235, 254, 255, 256, 257, 261, 100500, 100501] (by repeat' (first | exact Keep.nil | apply Keep.yes rfl | apply Keep.no)) (by repeat' (first | exact KeepH.nil | apply KeepH.old rfl | apply KeepH.gone | apply KeepH.new rfl)) ?_) | refine o_no rfl rfl (by decide) ?_ | refine o_casep rfl rfl (fun _ => ?_) (fun _ => ?_))) | (refine k_run ?_; (first | (refine r_met (b := ?_) hm12 ?_ ?_ ?_; rotate_left; (exact rfl); (exact rfl); (exact rfl)) | refine r_meetb 12 89 (fun b12 => ?_) (fun hm12 => ?_) | refine r_seq ?_ | refine r_region ?_ | refine r_skip ?_ | refine r_block ?_ | refine r_tr ?_ | refine r_inBlock ?_ | refine r_if rfl (fun _ => ?_) (fun _ => ?_) | refine r_cond rfl (fun _ => ?_) (fun _ => ?_) | refine r_exit rfl ?_)) | (refine k_tr ?_; (first | (refine kt_end ?_; refine t_endk [0, 1, 2, 3, 4, 5, 7, 8, 9, 10, 11, 12, 13, 14, 15, 16, 17, 19, 27, 34, 37, 38, 39, 40, 47, 89, 116, 153, 188, 217, 235, 254, 255, 256, 257, 261, 100500, 100501] mix (by kernel_rfl) (by repeat' (first | exact Keep.nil | apply Keep.yes rfl | apply Keep.no)) (by repeat' (first | exact KeepH.nil | apply KeepH.old rfl | apply KeepH.gone | apply KeepH.new rfl)) ?_) | refine t_sv rfl (by first | exact rfl | exact ⟨_, rfl, rfl, rfl⟩) (by decide) ?_ | (refine kt_load ?_; (refine t_val (v_load rfl rfl rfl rfl) (by first | exact rfl | exact ⟨_, rfl, rfl, rfl⟩) rfl rfl (by decide) ?_)) | (refine kt_field ?_; (refine t_val (v_field rfl rfl) (by first | exact rfl | exact ⟨_, rfl, rfl, rfl⟩) rfl rfl (by decide) ?_)) | (refine kt_blt ?_; (first | refine t_appn (by first | exact rfl | exact ⟨_, rfl, rfl, rfl⟩) rfl rfl rfl (fun _ => rfl) (by decide) rfl (by decide) (by omega) ?_ | refine t_apps (by first | exact rfl | exact ⟨_, rfl, rfl, rfl⟩) rfl rfl rfl rfl rfl (fun _ => rfl) (by decide) rfl (by decide) (by omega) ?_ | refine t_val (v_lenm rfl) (by first | exact rfl | exact ⟨_, rfl, rfl, rfl⟩) rfl rfl (by decide) ?_)) | (refine kt_store ?_; (refine t_storer (by first | exact rfl | exact ⟨_, rfl, rfl, rfl⟩) rfl rfl rfl rfl rfl ?_)))))
      all_goals try (first | (first | exact r_ret Tryz.func27 _ (res_cell_one rfl rfl rfl rfl rfl rfl rfl) ⟨_, rfl, Or.inl ⟨_, (by decide), rfl⟩, rfl⟩ | (have e0 : ¬ 0 < a.heads.length + b.heads.length := (by omega); exact r_ret Tryz.func27 _ (res_cell_one rfl rfl rfl rfl rfl rfl rfl) ⟨_, rfl, Or.inr (by rw [cat, if_neg e0, if_neg e0]; rfl), rfl⟩) | (have e0 : 0 < a.heads.length + b.heads.length := (by omega); exact r_ret Tryz.func27 _ (res_cell_one rfl rfl rfl rfl rfl rfl rfl) ⟨_, rfl, Or.inr (by rw [cat, if_pos e0, if_pos e0]; rfl), rfl⟩)) | exact r_less (ih1 (k1 + 1) (by omega) (by omega)) rfl rfl | (exfalso; (try clear ih1); (try clear ih2); (try clear ih3); (try clear ih4); (try clear ih5); (try clear hm12); omega) | ((fail_if_success (refine r_loop ?_)); exfalso; (try clear ih1); (try clear ih2); (try clear ih3); (try clear ih4); (try clear ih5); (try clear hm12); simp_all; done))
    case neg =>
      repeat' (first | (refine k_op1 ?_; (first | refine o_sv rfl (by decide) ?_ | (refine k_load ?_; (refine o_val (v_load rfl rfl rfl rfl) rfl rfl (by decide) ?_)) | (refine k_field ?_; (refine o_val (v_field rfl rfl) rfl rfl (by decide) ?_)) | (refine k_bin ?_; (refine o_val (v_add (wi64 (by omega) (by omega))) rfl rfl (by decide) ?_)) | (refine k_blt ?_; (first | (refine o_appn (d := 93) rfl rfl rfl (fun _ => rfl) (by decide) rfl (by decide) (by omega) ?_; refine o_freeze 93 rfl ?_) | refine o_val (v_lenm rfl) rfl rfl (by decide) ?_)) | (refine k_store ?_; (refine o_store0 rfl rfl rfl rfl rfl rfl ?_)) | (refine k_alloc ?_; (refine o_does (d_alloc rfl rfl (by decide)) ?_)) | (refine k_build ?_; (refine o_build rfl rfl rfl rfl rfl rfl rfl (by decide) ?_)))) | (refine k_ops ?_; (first | refine o_go (by first | exact .inl rfl | exact .inr ⟨_, _, _, rfl, rfl, rfl⟩) ?_ | (refine ko_nil ?_; refine o_nilk [0, 1, 2, 3, 4, 5, 7, 8, 9, 10, 11, 12, 13, 14, 15, 16, 17, 19, 27, 34, 37, 38, 39, 40, 47, 89, 116, 153, 188, 217, 235, 254, 255, 256, 257, 261, 100500, 100501] (by repeat' (first | exact Keep.nil | apply Keep.yes rfl | apply Keep.no)) (by repeat' (first | exact KeepH.nil | apply KeepH.old rfl | apply KeepH.gone | apply KeepH.new rfl)) ?_) | refine o_no rfl rfl (by decide) ?_ | refine o_casep rfl rfl (fun _ => ?_) (fun _ => ?_))) | (refine k_run ?_; (first | (refine r_met (b := ?_) hm12 ?_ ?_ ?_; rotate_left; (exact rfl); (exact rfl); (exact rfl)) | refine r_meetb 12 89 (fun b12 => ?_) (fun hm12 => ?_) | refine r_seq ?_ | refine r_region ?_ | refine r_skip ?_ | refine r_block ?_ | refine r_tr ?_ | refine r_if rfl (fun _ => ?_) (fun _ => ?_) | refine r_cond rfl (fun _ => ?_) (fun _ => ?_) | refine r_exit rfl ?_)) | (refine k_tr ?_; (first | (refine kt_end ?_; refine t_endk [0, 1, 2, 3, 4, 5, 7, 8, 9, 10, 11, 12, 13, 14, 15, 16, 17, 19, 27, 34, 37, 38, 39, 40, 47, 89, 116, 153, 188, 217, 235, 254, 255, 256, 257, 261, 100500, 100501] mix (by kernel_rfl) (by repeat' (first | exact Keep.nil | apply Keep.yes rfl | apply Keep.no)) (by repeat' (first | exact KeepH.nil | apply KeepH.old rfl | apply KeepH.gone | apply KeepH.new rfl)) ?_) | refine t_sv rfl (by first | exact rfl | exact ⟨_, rfl, rfl, rfl⟩) (by decide) ?_ | (refine kt_load ?_; (refine t_val (v_load rfl rfl rfl rfl) (by first | exact rfl | exact ⟨_, rfl, rfl, rfl⟩) rfl rfl (by decide) ?_)) | (refine kt_field ?_; (refine t_val (v_field rfl rfl) (by first | exact rfl | exact ⟨_, rfl, rfl, rfl⟩) rfl rfl (by decide) ?_)) | (refine kt_blt ?_; (first | refine t_appn (by first | exact rfl | exact ⟨_, rfl, rfl, rfl⟩) rfl rfl rfl (fun _ => rfl) (by decide) rfl (by decide) (by omega) ?_ | refine t_apps (by first | exact rfl | exact ⟨_, rfl, rfl, rfl⟩) rfl rfl rfl rfl rfl (fun _ => rfl) (by decide) rfl (by decide) (by omega) ?_ | refine t_val (v_lenm rfl) (by first | exact rfl | exact ⟨_, rfl, rfl, rfl⟩) rfl rfl (by decide) ?_)) | (refine kt_store ?_; (refine t_storer (by first | exact rfl | exact ⟨_, rfl, rfl, rfl⟩) rfl rfl rfl rfl rfl ?_)))))
      all_goals try (first | (first | exact r_ret Tryz.func27 _ (res_cell_one rfl rfl rfl rfl rfl rfl rfl) ⟨_, rfl, Or.inl ⟨_, (by decide), rfl⟩, rfl⟩ | (have e0 : ¬ 0 < a.heads.length + b.heads.length := (by omega); exact r_ret Tryz.func27 _ (res_cell_one rfl rfl rfl rfl rfl rfl rfl) ⟨_, rfl, Or.inr (by rw [cat, if_neg e0, if_neg e0]; rfl), rfl⟩) | (have e0 : 0 < a.heads.length + b.heads.length := (by omega); exact r_ret Tryz.func27 _ (res_cell_one rfl rfl rfl rfl rfl rfl rfl) ⟨_, rfl, Or.inr (by rw [cat, if_pos e0, if_pos e0]; rfl), rfl⟩)) | (exfalso; (try clear ih1); (try clear ih2); (try clear ih3); (try clear ih4); (try clear ih5); (try clear hm12); omega) | ((fail_if_success (refine r_loop ?_)); exfalso; (try clear ih1); (try clear ih2); (try clear ih3); (try clear ih4); (try clear ih5); (try clear hm12); simp_all; done))
      all_goals
        refine r_freeze 100 rfl ?_
        refine r_loop ?_
        refine r_less (r_inv (fun k2 : Nat => ⟨273, [(2, PV.ptr (0, 2) 0), (3, PV.ptr (0, 3) 0), (4, PV.ptr (0, 4) 0), (8, PV.d (D.lit (Value.int IntKind.i64 (↑a.tokens.length : Int)))), (9, PV.d (D.lit (Value.int IntKind.i64 (↑a.nodes.length : Int)))), (10, PV.ptr (0, 10) 0), (11, I .i64 ((a.texts.length + k2 : Nat) : Int))], [(2, Blk.box [PV.d (D.slice (List.map Attr.cs a.attrs)), PV.d (D.slice (List.map (fun t => [strs t]) a.tokens)), PV.d (D.slice (List.map Text.cs a.texts)), PV.d (D.slice (List.map Region.cs a.regions)), PV.d (D.slice (List.map Node.cs a.nodes)), PV.d (ints a.heads), PV.d (strs a.rels)]), (10, Blk.box [PV.d (D.slice (List.map Attr.cs a.attrs)), PV.d (D.slice (List.map (fun t => [strs t]) (a.tokens ++ b.tokens))), PV.ref (0, 107), PV.d (D.lit nilS), PV.d (D.lit nilS), PV.d (D.lit nilS), PV.d (D.lit nilS)]), (3, Blk.box [PV.d (D.slice (List.map Attr.cs b.attrs)), PV.d (D.slice (List.map (fun t => [strs t]) b.tokens)), PV.d (D.slice (List.map Text.cs b.texts)), PV.d (D.slice (List.map Region.cs b.regions)), PV.d (D.slice (List.map Node.cs b.nodes)), PV.d (ints b.heads), PV.d (strs b.rels)]), (4, Blk.box [PV.d (D.lit nilS), PV.d (D.lit nilS), PV.d (D.lit nilS), PV.d (D.lit nilS), PV.d (D.lit nilS), PV.d (D.lit nilS), PV.d (D.lit nilS)]), (107, .row 66 4 ((mid a.texts b.texts (shT a.tokens.length) k2).map Text.cs))], H⟩) (fun k2 : Nat => k2 ≤ b.texts.length) (fun k2 : Nat => b.texts.length - k2) ?_ 0 (Nat.zero_le _)) rfl rfl
        intro k2 hk2 ih2
        have hl2 : (mid a.texts b.texts (shT a.tokens.length) k2).length = a.texts.length + b.texts.length := mid_len _ _ _ _
        by_cases hlt2 : k2 < b.texts.length
        case pos =>
          obtain ⟨x2, hx2⟩ : ∃ x, b.texts[k2]? = some x := ⟨_, List.getElem?_eq_getElem (by omega)⟩
          have hs2 := hb.text x2 (List.mem_of_getElem? hx2)
          have hg2a : (mid a.texts b.texts (shT a.tokens.length) k2)[((a.texts.length + k2 : Nat) : Int).toNat]? = some x2 := mid_get hx2
          have hg2b : ((mid a.texts b.texts (shT a.tokens.length) k2).set ((a.texts.length + k2 : Nat) : Int).toNat (⟨x2.name, x2.b + (a.tokens.length : Int), x2.e, x2.meta_⟩ : Text))[((a.texts.length + k2 : Nat) : Int).toNat]? = some (⟨x2.name, x2.b + (a.tokens.length : Int), x2.e, x2.meta_⟩ : Text) := mid_getset (by omega)
          repeat' (first | (refine k_op1 ?_; (first | refine o_sv rfl (by decide) ?_ | (refine k_load ?_; (first | refine o_val (v_rloadm hg2a rfl rfl rfl) rfl rfl (by decide) ?_ | refine o_val (v_rloadm hg2b rfl rfl rfl) rfl rfl (by decide) ?_ | refine o_val (v_load rfl rfl rfl rfl) rfl rfl (by decide) ?_)) | (refine k_field ?_; (first | refine o_val (v_field rfl rfl) rfl rfl (by decide) ?_ | refine o_val (v_fieldr rfl rfl) rfl rfl (by decide) ?_)) | (refine k_index ?_; (refine o_val (v_rindex rfl (by omega) (by first | (simp only [List.length_map]; omega) | (simp only [List.length_map, List.length_set]; omega)) rfl) rfl rfl (by decide) ?_)) | (refine k_bin ?_; (first | refine o_val (v_add (wi64 (by simp only; omega) (by simp only; omega))) rfl rfl (by decide) ?_ | refine o_val (v_add (wi64 (by omega) (by omega))) rfl rfl (by decide) ?_)) | (refine k_blt ?_; (first | refine o_val (v_lenm rfl) rfl rfl (by decide) ?_ | refine o_val (v_lenrm rfl) rfl rfl (by decide) ?_)) | (refine k_store ?_; (first | refine o_rstorem (⟨x2.name, x2.b + (a.tokens.length : Int), x2.e, x2.meta_⟩ : Text) (by rfl) (by rfl) (by rfl) (by rfl) hg2a (by rfl) (by rfl) (by rfl) (by rfl) ?_ | refine o_rstorem (⟨x2.name, x2.b + (a.tokens.length : Int), x2.e + (a.tokens.length : Int), x2.meta_⟩ : Text) (by rfl) (by rfl) (by rfl) (by rfl) hg2b (by rfl) (by rfl) (by rfl) (mid_set2 hx2) ?_)))) | (refine k_ops ?_; (first | refine o_go (by first | exact .inl rfl | exact .inr ⟨_, _, _, rfl, rfl, rfl⟩) ?_ | (refine ko_nil ?_; refine o_nilk [0, 1, 2, 3, 4, 5, 7, 8, 9, 10, 11, 12, 13, 14, 15, 16, 17, 19, 27, 34, 37, 38, 39, 40, 47, 89, 116, 153, 188, 217, 235, 254, 255, 256, 257, 261, 100500, 100501] (by repeat' (first | exact Keep.nil | apply Keep.yes rfl | apply Keep.no)) (by repeat' (first | exact KeepH.nil | apply KeepH.old rfl | apply KeepH.gone | apply KeepH.new rfl)) ?_))) | (refine k_run ?_; (first | refine r_seq ?_ | refine r_region ?_ | refine r_skip ?_ | refine r_block ?_ | refine r_tr ?_ | refine r_inBlock ?_ | refine r_if rfl (fun _ => ?_) (fun _ => ?_) | refine r_exit rfl ?_)) | (refine k_tr ?_; (first | (refine kt_end ?_; refine t_endk [0, 1, 2, 3, 4, 5, 7, 8, 9, 10, 11, 12, 13, 14, 15, 16, 17, 19, 27, 34, 37, 38, 39, 40, 47, 89, 116, 153, 188, 217, 235, 254, 255, 256, 257, 261, 100500, 100501] mix (by kernel_rfl) (by repeat' (first | exact Keep.nil | apply Keep.yes rfl | apply Keep.no)) (by repeat' (first | exact KeepH.nil | apply KeepH.old rfl | apply KeepH.gone | apply KeepH.new rfl)) ?_) | (refine kt_load ?_; (refine t_val (v_load rfl rfl rfl rfl) (by first | exact rfl | exact ⟨_, rfl, rfl, rfl⟩) rfl rfl (by decide) ?_)) | (refine kt_field ?_; (refine t_val (v_field rfl rfl) (by first | exact rfl | exact ⟨_, rfl, rfl, rfl⟩) rfl rfl (by decide) ?_)) | (refine kt_blt ?_; (first | refine t_appn (by first | exact rfl | exact ⟨_, rfl, rfl, rfl⟩) rfl rfl rfl (fun _ => rfl) (by decide) rfl (by decide) (by omega) ?_ | refine t_apps (by first | exact rfl | exact ⟨_, rfl, rfl, rfl⟩) rfl rfl rfl rfl rfl (fun _ => rfl) (by decide) rfl (by decide) (by omega) ?_)) | (refine kt_store ?_; (refine t_storer (by first | exact rfl | exact ⟨_, rfl, rfl, rfl⟩) rfl rfl rfl rfl rfl ?_)))))
          all_goals try (first | (first | exact r_ret Tryz.func27 _ (res_cell_one rfl rfl rfl rfl rfl rfl rfl) ⟨_, rfl, Or.inl ⟨_, (by decide), rfl⟩, rfl⟩ | (have e0 : ¬ 0 < a.heads.length + b.heads.length := (by omega); exact r_ret Tryz.func27 _ (res_cell_one rfl rfl rfl rfl rfl rfl rfl) ⟨_, rfl, Or.inr (by rw [cat, if_neg e0, if_neg e0]; rfl), rfl⟩) | (have e0 : 0 < a.heads.length + b.heads.length := (by omega); exact r_ret Tryz.func27 _ (res_cell_one rfl rfl rfl rfl rfl rfl rfl) ⟨_, rfl, Or.inr (by rw [cat, if_pos e0, if_pos e0]; rfl), rfl⟩)) | exact r_less (ih2 (k2 + 1) (by omega) (by omega)) rfl rfl | (exfalso; (try clear ih1); (try clear ih2); (try clear ih3); (try clear ih4); (try clear ih5); (try clear hm12); omega) | ((fail_if_success (refine r_loop ?_)); exfalso; (try clear ih1); (try clear ih2); (try clear ih3); (try clear ih4); (try clear ih5); (try clear hm12); simp_all; done))
        case neg =>
          repeat' (first | (refine k_op1 ?_; (first | refine o_sv rfl (by decide) ?_ | (refine k_load ?_; (refine o_val (v_load rfl rfl rfl rfl) rfl rfl (by decide) ?_)) | (refine k_field ?_; (refine o_val (v_field rfl rfl) rfl rfl (by decide) ?_)) | (refine k_blt ?_; (first | refine o_val (v_lenm rfl) rfl rfl (by decide) ?_ | refine o_val (v_lenrm rfl) rfl rfl (by decide) ?_)))) | (refine k_ops ?_; (first | refine o_go (by first | exact .inl rfl | exact .inr ⟨_, _, _, rfl, rfl, rfl⟩) ?_ | (refine ko_nil ?_; refine o_nilk [0, 1, 2, 3, 4, 5, 7, 8, 9, 10, 11, 12, 13, 14, 15, 16, 17, 19, 27, 34, 37, 38, 39, 40, 47, 89, 116, 153, 188, 217, 235, 254, 255, 256, 257, 261, 100500, 100501] (by repeat' (first | exact Keep.nil | apply Keep.yes rfl | apply Keep.no)) (by repeat' (first | exact KeepH.nil | apply KeepH.old rfl | apply KeepH.gone | apply KeepH.new rfl)) ?_))) | (refine k_run ?_; (first | refine r_seq ?_ | refine r_region ?_ | refine r_skip ?_ | refine r_block ?_ | refine r_tr ?_ | refine r_if rfl (fun _ => ?_) (fun _ => ?_) | refine r_exit rfl ?_)) | (refine k_tr ?_; (first | (refine kt_end ?_; refine t_endk [0, 1, 2, 3, 4, 5, 7, 8, 9, 10, 11, 12, 13, 14, 15, 16, 17, 19, 27, 34, 37, 38, 39, 40, 47, 89, 116, 153, 188, 217, 235, 254, 255, 256, 257, 261, 100500, 100501] mix (by kernel_rfl) (by repeat' (first | exact Keep.nil | apply Keep.yes rfl | apply Keep.no)) (by repeat' (first | exact KeepH.nil | apply KeepH.old rfl | apply KeepH.gone | apply KeepH.new rfl)) ?_) | (refine kt_load ?_; (refine t_val (v_load rfl rfl rfl rfl) (by first | exact rfl | exact ⟨_, rfl, rfl, rfl⟩) rfl rfl (by decide) ?_)) | (refine kt_field ?_; (refine t_val (v_field rfl rfl) (by first | exact rfl | exact ⟨_, rfl, rfl, rfl⟩) rfl rfl (by decide) ?_)) | (refine kt_blt ?_; (first | refine t_appn (by first | exact rfl | exact ⟨_, rfl, rfl, rfl⟩) rfl rfl rfl (fun _ => rfl) (by decide) rfl (by decide) (by omega) ?_ | refine t_apps (by first | exact rfl | exact ⟨_, rfl, rfl, rfl⟩) rfl rfl rfl rfl rfl (fun _ => rfl) (by decide) rfl (by decide) (by omega) ?_)) | (refine kt_store ?_; (refine t_storer (by first | exact rfl | exact ⟨_, rfl, rfl, rfl⟩) rfl rfl rfl rfl rfl ?_)))))
          all_goals try (first | (first | exact r_ret Tryz.func27 _ (res_cell_one rfl rfl rfl rfl rfl rfl rfl) ⟨_, rfl, Or.inl ⟨_, (by decide), rfl⟩, rfl⟩ | (have e0 : ¬ 0 < a.heads.length + b.heads.length := (by omega); exact r_ret Tryz.func27 _ (res_cell_one rfl rfl rfl rfl rfl rfl rfl) ⟨_, rfl, Or.inr (by rw [cat, if_neg e0, if_neg e0]; rfl), rfl⟩) | (have e0 : 0 < a.heads.length + b.heads.length := (by omega); exact r_ret Tryz.func27 _ (res_cell_one rfl rfl rfl rfl rfl rfl rfl) ⟨_, rfl, Or.inr (by rw [cat, if_pos e0, if_pos e0]; rfl), rfl⟩)) | (exfalso; (try clear ih1); (try clear ih2); (try clear ih3); (try clear ih4); (try clear ih5); (try clear hm12); omega) | ((fail_if_success (refine r_loop ?_)); exfalso; (try clear ih1); (try clear ih2); (try clear ih3); (try clear ih4); (try clear ih5); (try clear hm12); simp_all; done))
          all_goals
            obtain rfl : k2 = b.texts.length := (by omega)
            refine r_freeze 107 rfl ?_
            refine r_loop ?_
            refine r_less (r_inv (fun k3 : Nat => ⟨273, [(2, PV.ptr (0, 2) 0), (3, PV.ptr (0, 3) 0), (4, PV.ptr (0, 4) 0), (8, PV.d (D.lit (Value.int IntKind.i64 (↑a.tokens.length : Int)))), (9, PV.d (D.lit (Value.int IntKind.i64 (↑a.nodes.length : Int)))), (10, PV.ptr (0, 10) 0), (12, I .i64 ((a.regions.length + k3 : Nat) : Int))], [(2, Blk.box [PV.d (D.slice (List.map Attr.cs a.attrs)), PV.d (D.slice (List.map (fun t => [strs t]) a.tokens)), PV.d (D.slice (List.map Text.cs a.texts)), PV.d (D.slice (List.map Region.cs a.regions)), PV.d (D.slice (List.map Node.cs a.nodes)), PV.d (ints a.heads), PV.d (strs a.rels)]), (10, Blk.box [PV.d (D.slice (List.map Attr.cs a.attrs)), PV.d (D.slice (List.map (fun t => [strs t]) (a.tokens ++ b.tokens))), PV.d (D.slice (List.map Text.cs (mid a.texts b.texts (shT (↑a.tokens.length : Int)) b.texts.length))), PV.ref (0, 144), PV.d (D.lit nilS), PV.d (D.lit nilS), PV.d (D.lit nilS)]), (3, Blk.box [PV.d (D.slice (List.map Attr.cs b.attrs)), PV.d (D.slice (List.map (fun t => [strs t]) b.tokens)), PV.d (D.slice (List.map Text.cs b.texts)), PV.d (D.slice (List.map Region.cs b.regions)), PV.d (D.slice (List.map Node.cs b.nodes)), PV.d (ints b.heads), PV.d (strs b.rels)]), (4, Blk.box [PV.d (D.lit nilS), PV.d (D.lit nilS), PV.d (D.lit nilS), PV.d (D.lit nilS), PV.d (D.lit nilS), PV.d (D.lit nilS), PV.d (D.lit nilS)]), (144, .row 84 4 ((mid a.regions b.regions (shR a.tokens.length) k3).map Region.cs))], H⟩) (fun k3 : Nat => k3 ≤ b.regions.length) (fun k3 : Nat => b.regions.length - k3) ?_ 0 (Nat.zero_le _)) rfl rfl
            intro k3 hk3 ih3
            have hl3 : (mid a.regions b.regions (shR a.tokens.length) k3).length = a.regions.length + b.regions.length := mid_len _ _ _ _
            by_cases hlt3 : k3 < b.regions.length
            case pos =>
              obtain ⟨x3, hx3⟩ : ∃ x, b.regions[k3]? = some x := ⟨_, List.getElem?_eq_getElem (by omega)⟩
              have hs3 := hb.reg x3 (List.mem_of_getElem? hx3)
              have hg3a : (mid a.regions b.regions (shR a.tokens.length) k3)[((a.regions.length + k3 : Nat) : Int).toNat]? = some x3 := mid_get hx3
              have hg3b : ((mid a.regions b.regions (shR a.tokens.length) k3).set ((a.regions.length + k3 : Nat) : Int).toNat (⟨x3.type, x3.b + (a.tokens.length : Int), x3.e, x3.keys⟩ : Region))[((a.regions.length + k3 : Nat) : Int).toNat]? = some (⟨x3.type, x3.b + (a.tokens.length : Int), x3.e, x3.keys⟩ : Region) := mid_getset (by omega)
              repeat' (first | (refine k_op1 ?_; (first | refine o_sv rfl (by decide) ?_ | (refine k_load ?_; (first | refine o_val (v_rloadm hg3a rfl rfl rfl) rfl rfl (by decide) ?_ | refine o_val (v_rloadm hg3b rfl rfl rfl) rfl rfl (by decide) ?_ | refine o_val (v_load rfl rfl rfl rfl) rfl rfl (by decide) ?_)) | (refine k_field ?_; (first | refine o_val (v_field rfl rfl) rfl rfl (by decide) ?_ | refine o_val (v_fieldr rfl rfl) rfl rfl (by decide) ?_)) | (refine k_index ?_; (refine o_val (v_rindex rfl (by omega) (by first | (simp only [List.length_map]; omega) | (simp only [List.length_map, List.length_set]; omega)) rfl) rfl rfl (by decide) ?_)) | (refine k_bin ?_; (first | refine o_val (v_add (wi64 (by simp only; omega) (by simp only; omega))) rfl rfl (by decide) ?_ | refine o_val (v_add (wi64 (by omega) (by omega))) rfl rfl (by decide) ?_)) | (refine k_blt ?_; (refine o_val (v_lenrm rfl) rfl rfl (by decide) ?_)) | (refine k_store ?_; (first | refine o_rstorem (⟨x3.type, x3.b + (a.tokens.length : Int), x3.e, x3.keys⟩ : Region) (by rfl) (by rfl) (by rfl) (by rfl) hg3a (by rfl) (by rfl) (by rfl) (by rfl) ?_ | refine o_rstorem (⟨x3.type, x3.b + (a.tokens.length : Int), x3.e + (a.tokens.length : Int), x3.keys⟩ : Region) (by rfl) (by rfl) (by rfl) (by rfl) hg3b (by rfl) (by rfl) (by rfl) (mid_set2 hx3) ?_)))) | (refine k_ops ?_; (first | refine o_go (by first | exact .inl rfl | exact .inr ⟨_, _, _, rfl, rfl, rfl⟩) ?_ | (refine ko_nil ?_; refine o_nilk [0, 1, 2, 3, 4, 5, 7, 8, 9, 10, 11, 12, 13, 14, 15, 16, 17, 19, 27, 34, 37, 38, 39, 40, 47, 89, 116, 153, 188, 217, 235, 254, 255, 256, 257, 261, 100500, 100501] (by repeat' (first | exact Keep.nil | apply Keep.yes rfl | apply Keep.no)) (by repeat' (first | exact KeepH.nil | apply KeepH.old rfl | apply KeepH.gone | apply KeepH.new rfl)) ?_))) | (refine k_run ?_; (first | refine r_seq ?_ | refine r_region ?_ | refine r_skip ?_ | refine r_block ?_ | refine r_tr ?_ | refine r_inBlock ?_ | refine r_if rfl (fun _ => ?_) (fun _ => ?_) | refine r_exit rfl ?_)) | (refine k_tr ?_; (first | (refine kt_end ?_; refine t_endk [0, 1, 2, 3, 4, 5, 7, 8, 9, 10, 11, 12, 13, 14, 15, 16, 17, 19, 27, 34, 37, 38, 39, 40, 47, 89, 116, 153, 188, 217, 235, 254, 255, 256, 257, 261, 100500, 100501] mix (by kernel_rfl) (by repeat' (first | exact Keep.nil | apply Keep.yes rfl | apply Keep.no)) (by repeat' (first | exact KeepH.nil | apply KeepH.old rfl | apply KeepH.gone | apply KeepH.new rfl)) ?_) | (refine kt_load ?_; (refine t_val (v_load rfl rfl rfl rfl) (by first | exact rfl | exact ⟨_, rfl, rfl, rfl⟩) rfl rfl (by decide) ?_)) | (refine kt_field ?_; (refine t_val (v_field rfl rfl) (by first | exact rfl | exact ⟨_, rfl, rfl, rfl⟩) rfl rfl (by decide) ?_)) | (refine kt_blt ?_; (first | refine t_appn (by first | exact rfl | exact ⟨_, rfl, rfl, rfl⟩) rfl rfl rfl (fun _ => rfl) (by decide) rfl (by decide) (by omega) ?_ | refine t_apps (by first | exact rfl | exact ⟨_, rfl, rfl, rfl⟩) rfl rfl rfl rfl rfl (fun _ => rfl) (by decide) rfl (by decide) (by omega) ?_)) | (refine kt_store ?_; (refine t_storer (by first | exact rfl | exact ⟨_, rfl, rfl, rfl⟩) rfl rfl rfl rfl rfl ?_)))))
              all_goals try (first | (first | exact r_ret Tryz.func27 _ (res_cell_one rfl rfl rfl rfl rfl rfl rfl) ⟨_, rfl, Or.inl ⟨_, (by decide), rfl⟩, rfl⟩ | (have e0 : ¬ 0 < a.heads.length + b.heads.length := (by omega); exact r_ret Tryz.func27 _ (res_cell_one rfl rfl rfl rfl rfl rfl rfl) ⟨_, rfl, Or.inr (by rw [cat, if_neg e0, if_neg e0]; rfl), rfl⟩) | (have e0 : 0 < a.heads.length + b.heads.length := (by omega); exact r_ret Tryz.func27 _ (res_cell_one rfl rfl rfl rfl rfl rfl rfl) ⟨_, rfl, Or.inr (by rw [cat, if_pos e0, if_pos e0]; rfl), rfl⟩)) | exact r_less (ih3 (k3 + 1) (by omega) (by omega)) rfl rfl | (exfalso; (try clear ih1); (try clear ih2); (try clear ih3); (try clear ih4); (try clear ih5); (try clear hm12); omega) | ((fail_if_success (refine r_loop ?_)); exfalso; (try clear ih1); (try clear ih2); (try clear ih3); (try clear ih4); (try clear ih5); (try clear hm12); simp_all; done))
            case neg =>
              repeat' (first | (refine k_op1 ?_; (first | refine o_sv rfl (by decide) ?_ | (refine k_load ?_; (refine o_val (v_load rfl rfl rfl rfl) rfl rfl (by decide) ?_)) | (refine k_field ?_; (refine o_val (v_field rfl rfl) rfl rfl (by decide) ?_)) | (refine k_blt ?_; (refine o_val (v_lenrm rfl) rfl rfl (by decide) ?_)))) | (refine k_ops ?_; (first | refine o_go (by first | exact .inl rfl | exact .inr ⟨_, _, _, rfl, rfl, rfl⟩) ?_ | (refine ko_nil ?_; refine o_nilk [0, 1, 2, 3, 4, 5, 7, 8, 9, 10, 11, 12, 13, 14, 15, 16, 17, 19, 27, 34, 37, 38, 39, 40, 47, 89, 116, 153, 188, 217, 235, 254, 255, 256, 257, 261, 100500, 100501] (by repeat' (first | exact Keep.nil | apply Keep.yes rfl | apply Keep.no)) (by repeat' (first | exact KeepH.nil | apply KeepH.old rfl | apply KeepH.gone | apply KeepH.new rfl)) ?_))) | (refine k_run ?_; (first | refine r_seq ?_ | refine r_region ?_ | refine r_skip ?_ | refine r_block ?_ | refine r_tr ?_ | refine r_if rfl (fun _ => ?_) (fun _ => ?_) | refine r_exit rfl ?_)) | (refine k_tr ?_; (first | (refine kt_end ?_; refine t_endk [0, 1, 2, 3, 4, 5, 7, 8, 9, 10, 11, 12, 13, 14, 15, 16, 17, 19, 27, 34, 37, 38, 39, 40, 47, 89, 116, 153, 188, 217, 235, 254, 255, 256, 257, 261, 100500, 100501] mix (by kernel_rfl) (by repeat' (first | exact Keep.nil | apply Keep.yes rfl | apply Keep.no)) (by repeat' (first | exact KeepH.nil | apply KeepH.old rfl | apply KeepH.gone | apply KeepH.new rfl)) ?_) | (refine kt_load ?_; (refine t_val (v_load rfl rfl rfl rfl) (by first | exact rfl | exact ⟨_, rfl, rfl, rfl⟩) rfl rfl (by decide) ?_)) | (refine kt_field ?_; (refine t_val (v_field rfl rfl) (by first | exact rfl | exact ⟨_, rfl, rfl, rfl⟩) rfl rfl (by decide) ?_)) | (refine kt_blt ?_; (first | refine t_appn (by first | exact rfl | exact ⟨_, rfl, rfl, rfl⟩) rfl rfl rfl (fun _ => rfl) (by decide) rfl (by decide) (by omega) ?_ | refine t_apps (by first | exact rfl | exact ⟨_, rfl, rfl, rfl⟩) rfl rfl rfl rfl rfl (fun _ => rfl) (by decide) rfl (by decide) (by omega) ?_)) | (refine kt_store ?_; (refine t_storer (by first | exact rfl | exact ⟨_, rfl, rfl, rfl⟩) rfl rfl rfl rfl rfl ?_)))))
              all_goals try (first | (first | exact r_ret Tryz.func27 _ (res_cell_one rfl rfl rfl rfl rfl rfl rfl) ⟨_, rfl, Or.inl ⟨_, (by decide), rfl⟩, rfl⟩ | (have e0 : ¬ 0 < a.heads.length + b.heads.length := (by omega); exact r_ret Tryz.func27 _ (res_cell_one rfl rfl rfl rfl rfl rfl rfl) ⟨_, rfl, Or.inr (by rw [cat, if_neg e0, if_neg e0]; rfl), rfl⟩) | (have e0 : 0 < a.heads.length + b.heads.length := (by omega); exact r_ret Tryz.func27 _ (res_cell_one rfl rfl rfl rfl rfl rfl rfl) ⟨_, rfl, Or.inr (by rw [cat, if_pos e0, if_pos e0]; rfl), rfl⟩)) | (exfalso; (try clear ih1); (try clear ih2); (try clear ih3); (try clear ih4); (try clear ih5); (try clear hm12); omega) | ((fail_if_success (refine r_loop ?_)); exfalso; (try clear ih1); (try clear ih2); (try clear ih3); (try clear ih4); (try clear ih5); (try clear hm12); simp_all; done))
              all_goals
                obtain rfl : k3 = b.regions.length := (by omega)
                refine r_freeze 144 rfl ?_
                refine r_loop ?_
                refine r_less (r_inv (fun k4 : Nat => ⟨273, [(2, PV.ptr (0, 2) 0), (3, PV.ptr (0, 3) 0), (4, PV.ptr (0, 4) 0), (8, PV.d (D.lit (Value.int IntKind.i64 (↑a.tokens.length : Int)))), (9, PV.d (D.lit (Value.int IntKind.i64 (↑a.nodes.length : Int)))), (10, PV.ptr (0, 10) 0), (13, I .i64 ((a.nodes.length + k4 : Nat) : Int))], [(2, Blk.box [PV.d (D.slice (List.map Attr.cs a.attrs)), PV.d (D.slice (List.map (fun t => [strs t]) a.tokens)), PV.d (D.slice (List.map Text.cs a.texts)), PV.d (D.slice (List.map Region.cs a.regions)), PV.d (D.slice (List.map Node.cs a.nodes)), PV.d (ints a.heads), PV.d (strs a.rels)]), (10, Blk.box [PV.d (D.slice (List.map Attr.cs a.attrs)), PV.d (D.slice (List.map (fun t => [strs t]) (a.tokens ++ b.tokens))), PV.d (D.slice (List.map Text.cs (mid a.texts b.texts (shT (↑a.tokens.length : Int)) b.texts.length))), PV.d (D.slice (List.map Region.cs (mid a.regions b.regions (shR (↑a.tokens.length : Int)) b.regions.length))), PV.ref (0, 181), PV.d (D.lit nilS), PV.d (D.lit nilS)]), (3, Blk.box [PV.d (D.slice (List.map Attr.cs b.attrs)), PV.d (D.slice (List.map (fun t => [strs t]) b.tokens)), PV.d (D.slice (List.map Text.cs b.texts)), PV.d (D.slice (List.map Region.cs b.regions)), PV.d (D.slice (List.map Node.cs b.nodes)), PV.d (ints b.heads), PV.d (strs b.rels)]), (4, Blk.box [PV.d (D.lit nilS), PV.d (D.lit nilS), PV.d (D.lit nilS), PV.d (D.lit nilS), PV.d (D.lit nilS), PV.d (D.lit nilS), PV.d (D.lit nilS)]), (181, .row 55 4 ((mid a.nodes b.nodes (shN a.tokens.length a.nodes.length) k4).map Node.cs))], H⟩) (fun k4 : Nat => k4 ≤ b.nodes.length) (fun k4 : Nat => b.nodes.length - k4) ?_ 0 (Nat.zero_le _)) rfl rfl
                intro k4 hk4 ih4
                have hl4 : (mid a.nodes b.nodes (shN a.tokens.length a.nodes.length) k4).length = a.nodes.length + b.nodes.length := mid_len _ _ _ _
                by_cases hlt4 : k4 < b.nodes.length
                case pos =>
                  obtain ⟨x4, hx4⟩ : ∃ x, b.nodes[k4]? = some x := ⟨_, List.getElem?_eq_getElem (by omega)⟩
                  have hs4 := hb.node x4 (List.mem_of_getElem? hx4)
                  have hg4a : (mid a.nodes b.nodes (shN a.tokens.length a.nodes.length) k4)[((a.nodes.length + k4 : Nat) : Int).toNat]? = some x4 := mid_get hx4
                  have hg4b : ((mid a.nodes b.nodes (shN a.tokens.length a.nodes.length) k4).set ((a.nodes.length + k4 : Nat) : Int).toNat (⟨x4.label, x4.b + (a.tokens.length : Int), x4.e, x4.parent⟩ : Node))[((a.nodes.length + k4 : Nat) : Int).toNat]? = some (⟨x4.label, x4.b + (a.tokens.length : Int), x4.e, x4.parent⟩ : Node) := mid_getset (by omega)
                  have hg4c : (((mid a.nodes b.nodes (shN a.tokens.length a.nodes.length) k4).set ((a.nodes.length + k4 : Nat) : Int).toNat (⟨x4.label, x4.b + (a.tokens.length : Int), x4.e, x4.parent⟩ : Node)).set ((a.nodes.length + k4 : Nat) : Int).toNat (⟨x4.label, x4.b + (a.tokens.length : Int), x4.e + (a.tokens.length : Int), x4.parent⟩ : Node))[((a.nodes.length + k4 : Nat) : Int).toNat]? = some (⟨x4.label, x4.b + (a.tokens.length : Int), x4.e + (a.tokens.length : Int), x4.parent⟩ : Node) := mid_getset2 (by omega)
                  have hst4 : 0 ≤ x4.parent → ((((mid a.nodes b.nodes (shN a.tokens.length a.nodes.length) k4).set ((a.nodes.length + k4 : Nat) : Int).toNat (⟨x4.label, x4.b + (a.tokens.length : Int), x4.e, x4.parent⟩ : Node)).set ((a.nodes.length + k4 : Nat) : Int).toNat (⟨x4.label, x4.b + (a.tokens.length : Int), x4.e + (a.tokens.length : Int), x4.parent⟩ : Node)).set ((a.nodes.length + k4 : Nat) : Int).toNat ⟨x4.label, x4.b + (a.tokens.length : Int), x4.e + (a.tokens.length : Int), x4.parent + (a.nodes.length : Int)⟩) = mid a.nodes b.nodes (shN a.tokens.length a.nodes.length) (k4 + 1) := fun h => by have := mid_set3 (f := shN a.tokens.length a.nodes.length) (y := (⟨x4.label, x4.b + (a.tokens.length : Int), x4.e, x4.parent⟩ : Node)) (z := (⟨x4.label, x4.b + (a.tokens.length : Int), x4.e + (a.tokens.length : Int), x4.parent⟩ : Node)) hx4 (A := a.nodes); rw [show (shN a.tokens.length a.nodes.length) x4 = _ from by simp only [shN, if_pos h]; rfl] at this; exact this
                  have hsn4 : ¬ 0 ≤ x4.parent → ((mid a.nodes b.nodes (shN a.tokens.length a.nodes.length) k4).set ((a.nodes.length + k4 : Nat) : Int).toNat (⟨x4.label, x4.b + (a.tokens.length : Int), x4.e, x4.parent⟩ : Node)).set ((a.nodes.length + k4 : Nat) : Int).toNat (⟨x4.label, x4.b + (a.tokens.length : Int), x4.e + (a.tokens.length : Int), x4.parent⟩ : Node) = mid a.nodes b.nodes (shN a.tokens.length a.nodes.length) (k4 + 1) := fun h => by have := mid_set2 (f := shN a.tokens.length a.nodes.length) (y := (⟨x4.label, x4.b + (a.tokens.length : Int), x4.e, x4.parent⟩ : Node)) hx4 (A := a.nodes); rw [show (shN a.tokens.length a.nodes.length) x4 = _ from by simp only [shN, if_neg h]; rfl] at this; exact this
                  repeat' (first | (refine k_op1 ?_; (first | refine o_sv rfl (by decide) ?_ | (refine k_load ?_; (first | refine o_val (v_rloadm hg4a rfl rfl rfl) rfl rfl (by decide) ?_ | refine o_val (v_rloadm hg4b rfl rfl rfl) rfl rfl (by decide) ?_ | refine o_val (v_rloadm hg4c rfl rfl rfl) rfl rfl (by decide) ?_ | refine o_val (v_load rfl rfl rfl rfl) rfl rfl (by decide) ?_ | refine o_val (v_loadp rfl rfl rfl rfl) rfl rfl (by decide) ?_)) | (refine k_field ?_; (first | refine o_val (v_field rfl rfl) rfl rfl (by decide) ?_ | refine o_val (v_fieldr rfl rfl) rfl rfl (by decide) ?_)) | (refine k_index ?_; (refine o_val (v_rindex rfl (by omega) (by first | (simp only [List.length_map]; omega) | (simp only [List.length_map, List.length_set]; omega)) rfl) rfl rfl (by decide) ?_)) | (refine k_bin ?_; (first | refine o_val (v_add (wi64 (by simp only; omega) (by simp only; omega))) rfl rfl (by decide) ?_ | refine o_val (v_add (wi64 (by omega) (by omega))) rfl rfl (by decide) ?_)) | (refine k_blt ?_; (first | refine o_apps rfl rfl rfl rfl rfl (fun _ => rfl) (by decide) rfl (by decide) (by omega) ?_ | refine o_appn rfl rfl rfl (fun _ => rfl) (by decide) rfl (by decide) (by omega) ?_ | refine o_val (v_lenm rfl) rfl rfl (by decide) ?_ | refine o_val (v_lenrm rfl) rfl rfl (by decide) ?_)) | (refine k_call ?_; (first | refine o_fn (nf_pure (allHeads_n a ha)) rfl (by decide) ?_ | refine o_fn (nf_pure (allHeads_n b hb)) rfl (by decide) ?_)) | (refine k_store ?_; (first | refine o_rstorem (⟨x4.label, x4.b + (a.tokens.length : Int), x4.e, x4.parent⟩ : Node) (by rfl) (by rfl) (by rfl) (by rfl) hg4a (by rfl) (by rfl) (by rfl) (by rfl) ?_ | refine o_rstorem (⟨x4.label, x4.b + (a.tokens.length : Int), x4.e + (a.tokens.length : Int), x4.parent⟩ : Node) (by rfl) (by rfl) (by rfl) (by rfl) hg4b (by rfl) (by rfl) (by rfl) (by rfl) ?_ | refine o_rstorem ⟨x4.label, x4.b + (a.tokens.length : Int), x4.e + (a.tokens.length : Int), x4.parent + (a.nodes.length : Int)⟩ (by rfl) (by rfl) (by rfl) (by rfl) hg4c (by rfl) (by rfl) (by rfl) (hst4 (by assumption)) ?_ | refine o_store0 rfl rfl rfl rfl rfl rfl ?_)))) | (refine k_ops ?_; (first | refine o_go (by first | exact .inl rfl | exact .inr ⟨_, _, _, rfl, rfl, rfl⟩) ?_ | (refine ko_nil ?_; refine o_nilk [0, 1, 2, 3, 4, 5, 7, 8, 9, 10, 11, 12, 13, 14, 15, 16, 17, 19, 27, 34, 37, 38, 39, 40, 47, 89, 116, 153, 188, 217, 235, 254, 255, 256, 257, 261, 100500, 100501] (by repeat' (first | exact Keep.nil | apply Keep.yes rfl | apply Keep.no)) (by repeat' (first | exact KeepH.nil | apply KeepH.old rfl | apply KeepH.gone | apply KeepH.new rfl)) ?_))) | (refine k_run ?_; (first | refine r_seq ?_ | refine r_region ?_ | refine r_skip ?_ | refine r_block ?_ | refine r_inBlock ?_ | refine r_if rfl (fun _ => ?_) (fun _ => ?_) | refine r_exit rfl ?_)))
                  all_goals try (first | (first | exact r_ret Tryz.func27 _ (res_cell_one rfl rfl rfl rfl rfl rfl rfl) ⟨_, rfl, Or.inl ⟨_, (by decide), rfl⟩, rfl⟩ | (have e0 : ¬ 0 < a.heads.length + b.heads.length := (by omega); exact r_ret Tryz.func27 _ (res_cell_one rfl rfl rfl rfl rfl rfl rfl) ⟨_, rfl, Or.inr (by rw [cat, if_neg e0, if_neg e0]; rfl), rfl⟩) | (have e0 : 0 < a.heads.length + b.heads.length := (by omega); exact r_ret Tryz.func27 _ (res_cell_one rfl rfl rfl rfl rfl rfl rfl) ⟨_, rfl, Or.inr (by rw [cat, if_pos e0, if_pos e0]; rfl), rfl⟩)) | (first | exact r_less (ih4 (k4 + 1) (by omega) (by omega)) rfl rfl | exact r_less (ih4 (k4 + 1) (by omega) (by omega)) rfl (by rw [← hsn4 (by assumption)]; rfl)) | (exfalso; (try clear ih1); (try clear ih2); (try clear ih3); (try clear ih4); (try clear ih5); (try clear hm12); omega) | ((fail_if_success (refine r_loop ?_)); exfalso; (try clear ih1); (try clear ih2); (try clear ih3); (try clear ih4); (try clear ih5); (try clear hm12); simp_all; done))
                case neg =>
                  obtain rfl : k4 = b.nodes.length := (by omega)
                  refine r_freeze 181 rfl ?_
                  repeat' (first | (refine k_op1 ?_; (first | refine o_sv rfl (by decide) ?_ | (refine k_load ?_; (first | refine o_val (v_load rfl rfl rfl rfl) rfl rfl (by decide) ?_ | refine o_val (v_loadp rfl rfl rfl rfl) rfl rfl (by decide) ?_)) | (refine k_field ?_; (refine o_val (v_field rfl rfl) rfl rfl (by decide) ?_)) | (refine k_bin ?_; (refine o_val (v_add (wi64 (by omega) (by omega))) rfl rfl (by decide) ?_)) | (refine k_blt ?_; (first | refine o_apps rfl rfl rfl rfl rfl (fun _ => rfl) (by decide) rfl (by decide) (by omega) ?_ | refine o_appn rfl rfl rfl (fun _ => rfl) (by decide) rfl (by decide) (by omega) ?_ | refine o_val (v_lenm rfl) rfl rfl (by decide) ?_)) | (refine k_call ?_; (first | refine o_fn (nf_pure (allHeads_n a ha)) rfl (by decide) ?_ | refine o_fn (nf_pure (allHeads_n b hb)) rfl (by decide) ?_)) | (refine k_store ?_; (refine o_store0 rfl rfl rfl rfl rfl rfl ?_)))) | (refine k_ops ?_; (first | refine o_go (by first | exact .inl rfl | exact .inr ⟨_, _, _, rfl, rfl, rfl⟩) ?_ | (refine ko_nil ?_; refine o_nilk [0, 1, 2, 3, 4, 5, 7, 8, 9, 10, 11, 12, 13, 14, 15, 16, 17, 19, 27, 34, 37, 38, 39, 40, 47, 89, 116, 153, 188, 217, 235, 254, 255, 256, 257, 261, 100500, 100501] (by repeat' (first | exact Keep.nil | apply Keep.yes rfl | apply Keep.no)) (by repeat' (first | exact KeepH.nil | apply KeepH.old rfl | apply KeepH.gone | apply KeepH.new rfl)) ?_))) | (refine k_run ?_; (first | refine r_seq ?_ | refine r_region ?_ | refine r_skip ?_ | refine r_block ?_ | refine r_if rfl (fun _ => ?_) (fun _ => ?_) | refine r_exit rfl ?_)))
                  all_goals try (first | (first | exact r_ret Tryz.func27 _ (res_cell_one rfl rfl rfl rfl rfl rfl rfl) ⟨_, rfl, Or.inl ⟨_, (by decide), rfl⟩, rfl⟩ | (have e0 : ¬ 0 < a.heads.length + b.heads.length := (by omega); exact r_ret Tryz.func27 _ (res_cell_one rfl rfl rfl rfl rfl rfl rfl) ⟨_, rfl, Or.inr (by rw [cat, if_neg e0, if_neg e0]; rfl), rfl⟩) | (have e0 : 0 < a.heads.length + b.heads.length := (by omega); exact r_ret Tryz.func27 _ (res_cell_one rfl rfl rfl rfl rfl rfl rfl) ⟨_, rfl, Or.inr (by rw [cat, if_pos e0, if_pos e0]; rfl), rfl⟩)) | (exfalso; (try clear ih1); (try clear ih2); (try clear ih3); (try clear ih4); (try clear ih5); (try clear hm12); omega) | ((fail_if_success (refine r_loop ?_)); exfalso; (try clear ih1); (try clear ih2); (try clear ih3); (try clear ih4); (try clear ih5); (try clear hm12); simp_all; done))
                  all_goals
                    refine r_freeze 251 rfl ?_
                    refine r_loop ?_
                    refine r_less (r_inv (fun k5 : Nat => ⟨273, [(4, PV.ptr (0, 4) 0), (8, PV.d (D.lit (Value.int IntKind.i64 (↑a.tokens.length : Int)))), (10, PV.ptr (0, 10) 0), (254, PV.d (ints (hAll b))), (255, PV.d (D.lit (Value.int IntKind.i64 (↑(hAll b).length : Int)))), (256, I .i64 (k5 : Nat))], [(10, Blk.box [PV.d (D.slice (List.map Attr.cs a.attrs)), PV.d (D.slice (List.map (fun t => [strs t]) (a.tokens ++ b.tokens))), PV.d (D.slice (List.map Text.cs (mid a.texts b.texts (shT (↑a.tokens.length : Int)) b.texts.length))), PV.d (D.slice (List.map Region.cs (mid a.regions b.regions (shR (↑a.tokens.length : Int)) b.regions.length))), PV.d (D.slice (List.map Node.cs (mid a.nodes b.nodes (shN (↑a.tokens.length : Int) (↑a.nodes.length : Int)) b.nodes.length))), PV.ref (0, 247), PV.d (D.slice (List.map (fun x => [Dstr x]) (rAll a ++ rAll b)))]), (4, Blk.box [PV.d (D.lit nilS), PV.d (D.lit nilS), PV.d (D.lit nilS), PV.d (D.lit nilS), PV.d (D.lit nilS), PV.d (D.lit nilS), PV.d (D.lit nilS)]), (247, .row 3 1 ((happ (hAll a) (hAll b) (shH a.tokens.length) k5).map fun x => [Dint x]))], H⟩) (fun k5 : Nat => k5 ≤ (hAll b).length) (fun k5 : Nat => (hAll b).length - k5) ?_ 0 (Nat.zero_le _)) rfl rfl
                    intro k5 hk5 ih5
                    have hl5 := happ_len (hAll a) (hAll b) (shH a.tokens.length) k5
                    by_cases hlt5 : k5 < (hAll b).length
                    case pos =>
                      obtain ⟨x5, hx5⟩ : ∃ x, (hAll b)[k5]? = some x := ⟨_, List.getElem?_eq_getElem (by omega)⟩
                      have hr5 := hAll_range hh x5 (List.mem_of_getElem? hx5)
                      have hc5 := happ_step (A := hAll a) (f := shH a.tokens.length) hx5
                      repeat' (first | (refine k_op1 ?_; (first | refine o_sv rfl (by decide) ?_ | (refine k_load ?_; (first | refine o_val (v_load rfl rfl rfl rfl) rfl rfl (by decide) ?_ | refine o_val (v_loade rfl rfl rfl) rfl rfl (by decide) ?_)) | (refine k_field ?_; (refine o_val (v_field rfl rfl) rfl rfl (by decide) ?_)) | (refine k_index ?_; (refine o_val (v_index rfl (by omega) (idx hx5) rfl) rfl rfl (by decide) ?_)) | (refine k_bin ?_; (refine o_val (v_add (wi64 (by omega) (by omega))) rfl rfl (by decide) ?_)) | (refine k_blt ?_; (refine o_app1 rfl rfl _ rfl rfl rfl rfl rfl rfl rfl (by decide) (by omega) ?_)) | (refine k_store ?_; (refine o_store0 rfl rfl rfl rfl rfl rfl ?_)) | (refine k_lit ?_; (refine o_lit rfl rfl rfl rfl rfl rfl rfl rfl (by decide) ?_)))) | (refine k_ops ?_; (first | refine o_go (by first | exact .inl rfl | exact .inr ⟨_, _, _, rfl, rfl, rfl⟩) ?_ | (refine ko_nil ?_; refine o_nilk [0, 1, 2, 3, 4, 5, 7, 8, 9, 10, 11, 12, 13, 14, 15, 16, 17, 19, 27, 34, 37, 38, 39, 40, 47, 89, 116, 153, 188, 217, 235, 254, 255, 256, 257, 261, 100500, 100501] (by repeat' (first | exact Keep.nil | apply Keep.yes rfl | apply Keep.no)) (by repeat' (first | exact KeepH.nil | apply KeepH.old rfl | apply KeepH.gone | apply KeepH.new rfl)) ?_))) | (refine k_run ?_; (first | refine r_seq ?_ | refine r_region ?_ | refine r_skip ?_ | refine r_block ?_ | refine r_inBlock ?_ | refine r_if rfl (fun _ => ?_) (fun _ => ?_) | refine r_exit rfl ?_)))
                      all_goals try (first | (first | exact r_ret Tryz.func27 _ (res_cell_one rfl rfl rfl rfl rfl rfl rfl) ⟨_, rfl, Or.inl ⟨_, (by decide), rfl⟩, rfl⟩ | (have e0 : ¬ 0 < a.heads.length + b.heads.length := (by omega); exact r_ret Tryz.func27 _ (res_cell_one rfl rfl rfl rfl rfl rfl rfl) ⟨_, rfl, Or.inr (by rw [cat, if_neg e0, if_neg e0]; rfl), rfl⟩) | (have e0 : 0 < a.heads.length + b.heads.length := (by omega); exact r_ret Tryz.func27 _ (res_cell_one rfl rfl rfl rfl rfl rfl rfl) ⟨_, rfl, Or.inr (by rw [cat, if_pos e0, if_pos e0]; rfl), rfl⟩)) | (refine r_ren 269 247 rfl rfl ?_; first | exact r_less (ih5 (k5 + 1) (by omega) (by omega)) rfl (by rw [hc5, shH, if_pos (by assumption)]; rfl) | exact r_less (ih5 (k5 + 1) (by omega) (by omega)) rfl (by rw [hc5, shH, if_neg (by assumption)]; rfl)) | (exfalso; (try clear ih1); (try clear ih2); (try clear ih3); (try clear ih4); (try clear ih5); (try clear hm12); omega) | ((fail_if_success (refine r_loop ?_)); exfalso; (try clear ih1); (try clear ih2); (try clear ih3); (try clear ih4); (try clear ih5); (try clear hm12); simp_all; done))
                    case neg =>
                      obtain rfl : k5 = (hAll b).length := (by omega)
                      refine r_freeze 247 rfl ?_
                      repeat' (first | (refine k_op1 ?_; (first | refine o_sv rfl (by decide) ?_ | (refine k_load ?_; (refine o_val (v_loadp rfl rfl rfl rfl) rfl rfl (by decide) ?_)) | (refine k_store ?_; (refine o_store0 rfl rfl rfl rfl rfl rfl ?_)))) | (refine k_ops ?_; (first | refine o_go (by first | exact .inl rfl | exact .inr ⟨_, _, _, rfl, rfl, rfl⟩) ?_ | (refine ko_nil ?_; refine o_nilk [0, 1, 2, 3, 4, 5, 7, 8, 9, 10, 11, 12, 13, 14, 15, 16, 17, 19, 27, 34, 37, 38, 39, 40, 47, 89, 116, 153, 188, 217, 235, 254, 255, 256, 257, 261, 100500, 100501] (by repeat' (first | exact Keep.nil | apply Keep.yes rfl | apply Keep.no)) (by repeat' (first | exact KeepH.nil | apply KeepH.old rfl | apply KeepH.gone | apply KeepH.new rfl)) ?_))) | (refine k_run ?_; (first | refine r_seq ?_ | refine r_region ?_ | refine r_skip ?_ | refine r_block ?_ | refine r_if rfl (fun _ => ?_) (fun _ => ?_) | refine r_exit rfl ?_)))
                      all_goals try (first | (first | exact r_ret Tryz.func27 _ (res_cell_one rfl rfl rfl rfl rfl rfl rfl) ⟨_, rfl, Or.inl ⟨_, (by decide), rfl⟩, rfl⟩ | (have e0 : ¬ 0 < a.heads.length + b.heads.length := (by omega); exact r_ret Tryz.func27 _ (res_cell_one rfl rfl rfl rfl rfl rfl rfl) ⟨_, rfl, Or.inr (by rw [cat, if_neg e0, if_neg e0]; rfl), rfl⟩) | (have e0 : 0 < a.heads.length + b.heads.length := (by omega); exact r_ret Tryz.func27 _ (res_cell_one rfl rfl rfl rfl rfl rfl rfl) ⟨_, rfl, Or.inr (by rw [cat, if_pos e0, if_pos e0]; rfl), rfl⟩)) | (exfalso; (try clear ih1); (try clear ih2); (try clear ih3); (try clear ih4); (try clear ih5); (try clear hm12); omega) | ((fail_if_success (refine r_loop ?_)); exfalso; (try clear ih1); (try clear ih2); (try clear ih3); (try clear ih4); (try clear ih5); (try clear hm12); simp_all; done))
end Go.Proofs.YtonhfccmeammbaaGreatDoor
namespace Go.Proofs.YtonhfccmeammbaaGreatDoor
open Go.Ab
set_option maxHeartbeats 20000000
attribute [local irreducible] Run Ops Op1 Does Val Tr PureF Eff1 NF Rel tnum tnext

def nameL : List Str := [⟨#[116, 48]⟩, ⟨#[116, 49]⟩, ⟨#[116, 50]⟩]
theorem nameL_size : ∀ s ∈ nameL, s.size ≤ 10 := by simp only [nameL, List.mem_cons, List.not_mem_nil, or_false]; rintro s (rfl | rfl | rfl) <;> decide
theorem Forest.heads {n : Nat} {hs : List Int} {rs : List Str} (h : Forest n hs rs) (hn : n ≤ 1000000) : ∀ x ∈ hs, -1 ≤ x ∧ x ≤ 1000000 := by
  obtain ⟨rank, hr⟩ := h.range
  intro x hx
  obtain ⟨i, hi⟩ := List.getElem?_of_mem hx
  rcases hr i x hi with e | ⟨h1, h2, _⟩ <;> omega
theorem made_concat {s t : Nat} {a b : Corpus} (ha : Made s a) (hb : Made t b) (hs : s ≤ 10) (ht : t ≤ 10) : NF Tryz.prog 27 [a.d, b.d] (IsCat a b) := by
  obtain ⟨p, hp⟩ := ha.nodes
  obtain ⟨q, hq⟩ := hb.nodes
  exact concat_n a b (ha.small hs) (hb.small ht) (fun i x hx => (hp.bounds (by omega) i x hx).2.2.2.2.2) (fun i x hx => (hq.bounds (by omega) i x hx).2.2.2.2.2) (hb.heads.heads (by have := hb.tok1; omega))

theorem corpus_r (l : List Int) (k : Nat) (most : Int) (hl : l.length ≤ 120) (hk : k ≤ 120) (hmo : 1 ≤ most ∧ most ≤ 7) :
    Rel Tryz.prog 10 [.ptr (0, 500) 0, I .i64 most] [((0, 500), tapeB l k)]
      (fun x : Corpus × Nat => (∃ s, s ≤ 3 ∧ Made s x.1) ∧ x.2 ≤ 120) (fun x => x.1.d) (fun x => [((0, 500), tapeB l x.2)]) := by
  refine rel_of fun H hH => ?_
  have hH0 := hH ((0, 500), tapeB l k) (by simp)
  refine spec_of Tryz.func10 (by kernel_rfl) rfl (by simp) ?_
  dsimp only [Tryz.f10]
  refine r_take 500 0 500 hH0 rfl rfl ?_
  refine r_less (tm' := [(0, .ptr (0, 500) 0), (1, I .i64 most), (100500, .al (0, 500) (1, 500))]) (hp' := [(500, tapeB l k)]) ?_ rfl rfl
  repeat' (first | (refine k_op1 ?_; (first | refine o_sv rfl (by decide) ?_ | (refine k_call ?_; (first | (refine o_nx hl rfl rfl (by decide) (by omega) (by assumption) (fun _ _ _ => ?_)) | (refine o_rel1 (document_r l _ _ most hl (by assumption) (by omega) (by decide)) rfl rfl (by decide) ?_; rintro ⟨c, k1⟩ ⟨d1, d2⟩; simp only at d1 d2 ⊢))) | (refine k_store ?_; (refine o_store0 rfl rfl rfl rfl rfl rfl ?_)) | (refine k_alloc ?_; (refine o_does (d_alloc rfl rfl (by decide)) ?_)))) | (refine k_ops ?_; (first | refine o_go (by first | exact .inl rfl | exact .inr ⟨_, _, _, rfl, rfl, rfl⟩) ?_ | refine o_nil ?_)) | (refine k_run ?_; (first | refine r_seq ?_ | refine r_region ?_ | refine r_block ?_)))
  refine r_loop ?_
  refine r_less (r_inv (fun q : Int × Corpus × Nat => ⟨36, [(0, .ptr (0, 500) 0), (1, I .i64 most), (4, .ptr (0, 4) 0), (5, .ptr (0, 5) 0), (6, I .i64 q.1), (100500, .al (0, 500) (1, 500))],
      [(500, tapeB l q.2.2), (5, .box (q.2.1.cs.map .d)), (4, .box [.d (.lit nilS), .d (.lit nilS), .d (.lit nilS), .d (.lit nilS), .d (.lit nilS), .d (.lit nilS), .d (.lit nilS)])], upd H (0, 500) .gone⟩)
      (fun q => 0 ≤ q.1 ∧ q.1 ≤ 2 ∧ (∃ s : Nat, s ≤ 3 - q.1 ∧ Made s q.2.1) ∧ q.2.2 ≤ 120)
      (fun q => q.1.toNat) ?_ ⟨_, c, _⟩ ⟨(by assumption), (by simp only; omega), ⟨1, (by simp only; omega), d1.made hmo.2⟩, (by assumption)⟩) rfl rfl
  intro ⟨m, a, kt⟩ ⟨h1, h2, ⟨s, hs, h3⟩, h4⟩ ih
  simp only at h1 h2 hs h3 h4 ih ⊢
  by_cases hm : 0 < m
  · have hx : nameL[m.toNat]? = some (atL nameL m) := atL_some (by omega) (by have : nameL.length = 3 := rfl; omega)
    repeat' (first | (refine k_op1 ?_; (first | refine o_sv rfl (by decide) ?_ | (refine k_load ?_; (first | refine o_val (v_loada rfl rfl rfl) rfl rfl (by decide) ?_ | refine o_val (v_loade rfl rfl rfl) rfl rfl (by decide) ?_ | refine o_val (v_loadp rfl rfl rfl rfl) rfl rfl (by decide) ?_)) | (refine k_index ?_; (refine o_val (v_index rfl (by omega) (idxi hx) rfl) rfl rfl (by decide) ?_)) | (refine k_bin ?_; (refine o_val (v_sub (wi64 (by omega) (by omega))) rfl rfl (by decide) ?_)) | (refine k_call ?_; (first | (refine o_rel1 (document_r l _ _ most hl (by assumption) (by omega) (atL_size nameL_size _)) rfl rfl (by decide) ?_; rintro ⟨b, k2⟩ ⟨e1, e2⟩; simp only at e1 e2 ⊢) | (refine o_nf (made_concat h3 (e1.made hmo.2) (by omega) (by decide)) rfl (by decide) (fun p hp => ?_); rcases hp with ⟨e, he, rfl⟩ | rfl))) | (refine k_store ?_; (refine o_store0 rfl rfl rfl rfl rfl rfl ?_)) | (refine k_alloc ?_; (refine o_does (d_alloc rfl rfl (by decide)) ?_)) | (refine k_lit ?_; (refine o_lit (ys := nameL.map fun x => [Dstr x]) rfl rfl rfl rfl rfl rfl rfl rfl (by decide) ?_)))) | (refine k_ops ?_; (first | refine o_go (by first | exact .inl rfl | exact .inr ⟨_, _, _, rfl, rfl, rfl⟩) ?_ | refine o_nil ?_)) | (refine k_run ?_; (first | refine r_seq ?_ | refine r_region ?_ | refine r_true rfl ?_ | refine r_skip ?_ | refine r_block ?_ | refine r_inBlock ?_ | refine r_if rfl (fun _ => ?_) (fun _ => ?_) | refine r_exit rfl ?_)))
    all_goals try (exfalso; omega)
    all_goals first
      | exact r_less (ih ⟨m - 1, a, k2⟩ ⟨(by simp only; omega), (by simp only; omega), ⟨s, (by simp only; omega), h3⟩, e2⟩ (by simp only; omega)) rfl rfl
      | exact r_less (ih ⟨m - 1, cat a b, k2⟩ ⟨(by simp only; omega), (by simp only; omega), ⟨s + 1, (by simp only; omega), h3.cat (e1.made hmo.2)⟩, e2⟩ (by simp only; omega)) rfl rfl
      | exact r_less (ih ⟨m - 1, emptyC, k2⟩ ⟨(by simp only; omega), (by simp only; omega), ⟨s + 1, (by simp only; omega), by exfalso; simp_all⟩, e2⟩ (by simp only; omega)) rfl rfl
  · repeat' (first | (refine k_op1 ?_; (first | refine o_sv rfl (by decide) ?_ | (refine k_load ?_; (refine o_val (v_loada rfl rfl rfl) rfl rfl (by decide) ?_)) | (refine k_store ?_; (refine o_store0 rfl rfl rfl rfl rfl rfl ?_)) | (refine k_lit ?_; (refine o_lit rfl rfl rfl rfl rfl rfl rfl rfl (by decide) ?_)))) | (refine k_ops ?_; (first | refine o_go (by first | exact .inl rfl | exact .inr ⟨_, _, _, rfl, rfl, rfl⟩) ?_ | refine o_nil ?_)) | (refine k_run ?_; (first | refine r_seq ?_ | refine r_region ?_ | refine r_skip ?_ | refine r_block ?_ | refine r_if rfl (fun _ => ?_) (fun _ => ?_) | refine r_exit rfl ?_)))
    all_goals try (exfalso; omega)
    all_goals
      refine r_give 500 0 500 (raw := tapeB l kt) rfl rfl rfl rfl rfl ?_
      exact r_ret Tryz.func10 _ (res_cell rfl rfl rfl rfl rfl rfl) ⟨(a, kt), ⟨⟨s, by omega, h3⟩, h4⟩, rfl, upd_upd _ _ _ _⟩
end Go.Proofs.YtonhfccmeammbaaGreatDoor
namespace Go.Proofs.YtonhfccmeammbaaGreatDoor
open Go.Ab
set_option maxHeartbeats 20000000
set_option linter.unusedSimpArgs false
set_option linter.unusedVariables false
set_option linter.unusedSimpArgs false
set_option linter.unusedVariables false
attribute [local irreducible] Run Ops Op1 Does Val Tr PureF Eff1 NF Rel tnum tnext

theorem way_step {c : Corpus} (h : Wf c) {a : Int} (ha : token c a = true) : way c a = a :: (if head c a = -1 then [] else way c (head c a)) := by
  rw [way, up_step h ha]
  by_cases e : head c a = -1
  · rw [if_pos e, if_pos e]
  · rw [if_neg e, if_neg e, way]
theorem way_drop {c : Corpus} (h : Wf c) : ∀ (k : Nat) (a : Int), token c a = true → ∀ x, (way c a)[k]? = some x → (way c a).drop k = way c x
  | 0, a, ha, x, hx => by
    rw [way] at hx; simp at hx; subst hx; rfl
  | k + 1, a, ha, x, hx => by
    rw [way_step h ha] at hx ⊢
    by_cases e : head c a = -1
    · rw [if_pos e] at hx; simp at hx
    · rw [if_neg e] at hx ⊢
      rw [List.getElem?_cons_succ] at hx
      rw [List.drop_succ_cons]
      exact way_drop h k _ (head_token h ((token_iff c a).1 ha).1 e) x hx
theorem way_pos (c : Corpus) (a : Int) : 0 < (way c a).length := by simp [way]
theorem way_at {c : Corpus} (h : Wf c) {a : Int} (ha : token c a = true) {x : Int} (hx : x ∈ way c a) : ∃ k, k < (way c a).length ∧ (way c a)[k]? = some x ∧ (way c a).drop k = way c x := by
  obtain ⟨k, hk⟩ := List.getElem?_of_mem hx
  exact ⟨k, (List.getElem?_eq_some_iff.1 hk).1, hk, way_drop h k a ha x hk⟩
theorem way_inj {c : Corpus} (h : Wf c) {a : Int} (ha : token c a = true) {x : Int} {j k : Nat} (hj : (way c a)[j]? = some x) (hk : (way c a)[k]? = some x) : j = k := by
  have e1 := way_drop h j a ha x hj
  have e2 := way_drop h k a ha x hk
  have := congrArg List.length (e1.trans e2.symm)
  have l1 := (List.getElem?_eq_some_iff.1 hj).1
  have l2 := (List.getElem?_eq_some_iff.1 hk).1
  simp only [List.length_drop] at this
  omega
/-- the route to a token on the way -/
theorem routeOf_way {c : Corpus} (h : Wf c) {a : Int} (ha : token c a = true) {k : Nat} {x : Int} (hx : (way c a)[k]? = some x) : routeOf c a x = some (((way c a).take k).map (relAt c)) := by
  have hb := way_token h ha x (List.mem_of_getElem? hx)
  rw [routeOf, if_pos (by simp [ha, hb])]
  exact routeGo_at c x (way c a) k (fun j hj e => by have := way_inj h ha e hx; omega) hx
theorem way_sub {c : Corpus} (h : Wf c) {a x : Int} (ha : token c a = true) (hx : x ∈ way c a) : ∀ y ∈ way c x, y ∈ way c a := by
  obtain ⟨k, _, _, e⟩ := way_at h ha hx
  intro y hy
  rw [← e] at hy
  exact List.mem_of_mem_drop hy
theorem way_anti {c : Corpus} (h : Wf c) {x y : Int} (hx : token c x = true) (hy : token c y = true) (h1 : y ∈ way c x) (h2 : x ∈ way c y) : x = y := by
  obtain ⟨k, k1, k2, k3⟩ := way_at h hx h1
  obtain ⟨j, j1, j2, j3⟩ := way_at h hy h2
  have e1 := congrArg List.length k3
  have e2 := congrArg List.length j3
  simp only [List.length_drop] at e1 e2
  have : k = 0 := by omega
  subst this
  rw [way] at k2; simp at k2; exact k2
/-- the first token on both ways, if there is one -/
theorem meet_cases {c : Corpus} (h : Wf c) {a b : Int} (ha : token c a = true) (hb : token c b = true) :
    (meetOf c a b = -1 ∧ ∀ x ∈ way c a, x ∉ way c b) ∨ (meetOf c a b ∈ way c a ∧ meetOf c a b ∈ way c b ∧ ∀ y ∈ way c a, y ∈ way c b → y ∈ way c (meetOf c a b)) := by
  rw [meetOf, if_pos (by simp [ha, hb])]
  cases hf : (way c a).find? (inB (way c b)) with
  | none =>
    left
    refine ⟨rfl, fun x hx hxb => ?_⟩
    have := List.find?_eq_none.1 hf x hx
    simp [inB] at this; exact this hxb
  | some x =>
    right
    rw [List.find?_eq_some_iff_append] at hf
    obtain ⟨hp, u1, u2, e, hno⟩ := hf
    simp only [inB, decide_eq_true_eq] at hp
    simp only [Option.getD_some]
    have hx : x ∈ way c a := by rw [e]; simp
    refine ⟨hx, hp, fun y hy hyb => ?_⟩
    have hk : (way c a)[u1.length]? = some x := by rw [e, List.getElem?_append_right (Nat.le_refl _)]; simp
    have hd := way_drop h _ a ha x hk
    rw [e, List.drop_left] at hd
    rw [← hd]
    rw [e] at hy
    rcases List.mem_append.1 hy with hy | hy
    · have := hno y hy
      simp [inB] at this; exact absurd hyb this
    · exact hy
theorem meet_comm {c : Corpus} (h : Wf c) {a b : Int} (ha : token c a = true) (hb : token c b = true) : meetOf c b a = meetOf c a b := by
  rcases meet_cases h ha hb with ⟨e1, n1⟩ | ⟨m1, m2, m3⟩ <;> rcases meet_cases h hb ha with ⟨e2, n2⟩ | ⟨p1, p2, p3⟩
  · rw [e1, e2]
  · exact absurd p1 (n1 _ p2)
  · exact absurd m1 (n2 _ m2)
  · exact way_anti h (way_token h hb _ p1) (way_token h ha _ m1) (p3 _ m2 m1) (m3 _ p2 p1)
theorem way_last {c : Corpus} (h : Wf c) {a x : Int} (ha : token c a = true) (hx : x ∈ way c a) : (way c x)[(way c x).length - 1]? = (way c a)[(way c a).length - 1]? := by
  obtain ⟨k, k1, k2, k3⟩ := way_at h ha hx
  rw [← k3, List.getElem?_drop, List.length_drop]
  congr 1; omega
theorem meet_root {c : Corpus} (h : Wf c) {a b : Int} (ha : token c a = true) (hb : token c b = true) {p q : Int} (hp : (way c a)[(way c a).length - 1]? = some p) (hq : (way c b)[(way c b).length - 1]? = some q) : meetOf c a b = -1 ↔ p ≠ q := by
  rcases meet_cases h ha hb with ⟨e1, n1⟩ | ⟨m1, m2, m3⟩
  · refine ⟨fun _ e => ?_, fun _ => e1⟩
    subst e
    exact n1 p (List.mem_of_getElem? hp) (List.mem_of_getElem? hq)
  · have h1 := way_last h ha m1
    have h2 := way_last h hb m2
    rw [hp] at h1; rw [hq, h1] at h2
    have hm := (token_iff c _).1 (way_token h ha _ m1)
    constructor
    · intro e; rw [e] at hm; omega
    · intro e; exact absurd (by simpa using h2) e
theorem meet_route {c : Corpus} (h : Wf c) {a b : Int} (ha : token c a = true) (hb : token c b = true) (hm : meetOf c a b ≠ -1) : (routeOf c a (meetOf c a b)).isSome = true ∧ (routeOf c b (meetOf c a b)).isSome = true := by
  rcases meet_cases h ha hb with ⟨e1, n1⟩ | ⟨m1, m2, m3⟩
  · exact absurd e1 hm
  · obtain ⟨k, _, k2, _⟩ := way_at h ha m1
    obtain ⟨j, _, j2, _⟩ := way_at h hb m2
    rw [routeOf_way h ha k2, routeOf_way h hb j2]
    exact ⟨rfl, rfl⟩
theorem routeV_some (r : List Str) : routeV (some r) = .tup [.d (strs r), B true] := rfl
end Go.Proofs.YtonhfccmeammbaaGreatDoor
