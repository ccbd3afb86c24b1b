/- Spans and what an index of them finds, without the program; the layout of types. -/
import Derived.Test.YtiapeheclfkdmaaFa
import Derived.Test.YtiapeheclfkdmaaProg
import Derived.Test.YtiapeheclfkdmaaFg
import Derived.WalkKit
set_option linter.all false
set_option linter.unusedVariables false
set_option linter.unusedSimpArgs false
namespace Go.Stab
set_option linter.unusedVariables false
set_option linter.unusedSimpArgs false
abbrev Span := Int × Int
def sle (x y : Int) : Bool := decide (x ≤ y)
/-- a sorted permutation of a part of the numbers 0 to n - 1 -/
theorem sort_filter (n : Nat) (ord : List Nat) (p : Nat → Bool) (h : ord.Perm (List.range n)) :
    ((ord.filter p).map fun i : Nat => ((i : Nat) : Int)).mergeSort (fun x y => decide (x ≤ y)) = ((List.range n).filter p).map fun i : Nat => ((i : Nat) : Int) := by
  refine List.Perm.eq_of_pairwise (le := fun a b : Int => a ≤ b) (fun a b _ _ h1 h2 => by omega) ?_ ?_ ?_
  · have := List.pairwise_mergeSort (le := fun x y : Int => decide (x ≤ y)) (fun a b c h1 h2 => by simp at *; omega) (fun a b => by simp; omega) ((ord.filter p).map fun i : Nat => ((i : Nat) : Int))
    exact this.imp fun h => by simpa using h
  · rw [List.pairwise_map]
    refine List.Pairwise.imp (R := fun a b : Nat => a < b) (fun h => by omega) ?_
    exact (List.pairwise_lt_range).filter _
  · refine (List.mergeSort_perm _ _).trans ?_
    exact (h.filter p).map _
/-- the greatest end of some spans, at least 0 -/
def topE (l : List Span) (r : List Nat) : Int := r.foldr (fun i t => max (l.getD i (0, 0)).2 t) 0
theorem topE_nn (l : List Span) : ∀ r, 0 ≤ topE l r
  | [] => Int.le_refl _
  | i :: r => by have := topE_nn l r; simp only [topE, List.foldr_cons] at *; omega
theorem topE_ge (l : List Span) : ∀ (r : List Nat) (i : Nat), i ∈ r → (l.getD i (0, 0)).2 ≤ topE l r
  | [], i, h => by simp at h
  | j :: r, i, h => by
    have ih := topE_ge l r i
    simp only [topE, List.foldr_cons] at *
    rw [List.mem_cons] at h
    rcases h with rfl | h
    · omega
    · have := ih h; omega
theorem topE_app (l : List Span) : ∀ a b, topE l (a ++ b) = max (topE l a) (topE l b)
  | [], b => by have := topE_nn l b; simp only [topE, List.nil_append, List.foldr_nil] at *; omega
  | i :: a, b => by have := topE_app l a b; simp only [topE, List.cons_append, List.foldr_cons] at *; omega
/-- prt of a list -/
def prt (o : List Nat) (a b : Nat) : List Nat := (o.take b).drop a
theorem prt_len (o : List Nat) {a b : Nat} (h : b ≤ o.length) : (prt o a b).length = b - a := by simp [prt]; omega
theorem prt_nil (o : List Nat) {a b : Nat} (h : b ≤ a) : prt o a b = [] := by
  rw [prt, List.drop_eq_nil_iff, List.length_take]; omega
theorem prt_split (o : List Nat) {a m b i : Nat} (h1 : a ≤ m) (h2 : m < b) (hi : o[m]? = some i) : prt o a b = prt o a m ++ i :: prt o (m + 1) b := by
  have hm := (List.getElem?_eq_some_iff.1 hi)
  have hm0 := hm.1
  have e : o.take b = o.take m ++ i :: (o.take b).drop (m + 1) := by
    conv => lhs; rw [← List.take_append_drop m (o.take b)]
    rw [List.take_take, Nat.min_eq_left (by omega), List.drop_eq_getElem_cons (by rw [List.length_take]; omega), List.getElem_take, hm.2]
  rw [prt, prt, prt]
  conv => lhs; rw [e]
  rw [List.drop_append_of_le_length (by rw [List.length_take]; omega)]
theorem prt_all (o : List Nat) : prt o 0 o.length = o := by rw [prt, List.take_length, List.drop_zero]
/-- what the greatest ends are of: the middle of each prt holds that of the prt -/
inductive Ends (l : List Span) (o : List Nat) (E : List Int) : Nat → Nat → Prop where
  | none (a : Nat) : Ends l o E a a
  | some (a b : Nat) (h : a < b) (he : E[(a + b) / 2]? = some (topE l (prt o a b))) (h1 : Ends l o E a ((a + b) / 2)) (h2 : Ends l o E ((a + b) / 2 + 1) b) : Ends l o E a b
theorem Ends.congr {l : List Span} {o : List Nat} {E E' : List Int} {a b : Nat} (h : Ends l o E a b) (he : ∀ j, a ≤ j → j < b → E'[j]? = E[j]?) : Ends l o E' a b := by
  induction h with
  | none a => exact .none a
  | some a b h e h1 h2 ih1 ih2 => exact .some a b h (by rw [he _ (by omega) (by omega)]; exact e) (ih1 fun j hj hj' => he j hj (by omega)) (ih2 fun j hj hj' => he j (by omega) hj')
/-- the greatest ends of a prt, filled in -/
def growE (l : List Span) (o : List Nat) : Nat → Nat → Nat → List Int → List Int
  | 0, _, _, E => E
  | f + 1, a, b, E => if a = b then E else (growE l o f ((a + b) / 2 + 1) b (growE l o f a ((a + b) / 2) E)).set ((a + b) / 2) (topE l (prt o a b))
theorem growE_len (l : List Span) (o : List Nat) : ∀ (f a b : Nat) (E : List Int), (growE l o f a b E).length = E.length
  | 0, a, b, E => rfl
  | f + 1, a, b, E => by rw [growE]; split; rfl; rw [List.length_set, growE_len, growE_len]
theorem growE_out (l : List Span) (o : List Nat) : ∀ (f a b : Nat) (E : List Int) (j : Nat), a ≤ b → (j < a ∨ b ≤ j) → (growE l o f a b E)[j]? = E[j]?
  | 0, a, b, E, j, _, _ => rfl
  | f + 1, a, b, E, j, hab, hj => by
    rw [growE]; split
    · rfl
    · rw [List.getElem?_set_ne (by omega), growE_out l o f _ _ _ j (by omega) (by omega), growE_out l o f _ _ _ j (by omega) (by omega)]
theorem growE_ends (l : List Span) (o : List Nat) : ∀ (f a b : Nat) (E : List Int), a ≤ b → b - a < f → b ≤ E.length → Ends l o (growE l o f a b E) a b
  | 0, a, b, E, h, h1, h2 => by omega
  | f + 1, a, b, E, h, h1, h2 => by
    rw [growE]
    by_cases hab : a = b
    · rw [if_pos hab]; subst hab; exact .none a
    rw [if_neg hab]
    have i1 := growE_ends l o f a ((a + b) / 2) E (by omega) (by omega) (by omega)
    have i2 := growE_ends l o f ((a + b) / 2 + 1) b (growE l o f a ((a + b) / 2) E) (by omega) (by omega) (by rw [growE_len]; omega)
    refine .some a b (by omega) ?_ (i1.congr fun j hj hj' => ?_) (i2.congr fun j hj hj' => ?_)
    · rw [List.getElem?_set_self (by rw [growE_len, growE_len]; omega)]
    · rw [List.getElem?_set_ne (by omega), growE_out l o f _ _ _ j (by omega) (by omega)]
    · rw [List.getElem?_set_ne (by omega)]
/-- does a span overlap another one -/
def ov (l : List Span) (s : Span) (i : Nat) : Bool := decide ((l.getD i (0, 0)).1 < s.2) && decide (s.1 < (l.getD i (0, 0)).2)
theorem ov_top {l : List Span} {s : Span} {r : List Nat} (h : topE l r ≤ s.1) (p : Nat → Bool) : (r.filter fun i => ov l s i && p i) = [] := by
  rw [List.filter_eq_nil_iff]
  intro i hi
  have := topE_ge l r i hi
  simp only [ov, Bool.and_eq_true, decide_eq_true_eq]; omega
def byB (l : List Span) (a b : Nat) : Prop := (l.getD a (0, 0)).1 ≤ (l.getD b (0, 0)).1
theorem ov_late {l : List Span} {s : Span} {i : Nat} {r : List Nat} (h : (i :: r).Pairwise (byB l)) (hi : s.2 ≤ (l.getD i (0, 0)).1) (p : Nat → Bool) : ((i :: r).filter fun i => ov l s i && p i) = [] := by
  rw [List.filter_eq_nil_iff]
  intro j hj
  have : (l.getD i (0, 0)).1 ≤ (l.getD j (0, 0)).1 := by
    rw [List.mem_cons] at hj
    rcases hj with rfl | hj
    · exact Int.le_refl _
    · exact (List.pairwise_cons.1 h).1 j hj
  simp only [ov, Bool.and_eq_true, decide_eq_true_eq]; omega
end Go.Stab
namespace Go.Proofs.Ytiapeheclfkdmaa
open Go.Ab
instance T1 : HasT Try.prog 1 ⟨1, 8, .func, [], [.nilFunc]⟩ := ⟨by kernel_rfl⟩
instance T2 : HasT Try.prog 2 ⟨1, 8, (.int .i64), [], [.int .i64 0]⟩ := ⟨by kernel_rfl⟩
instance T3 : HasT Try.prog 3 ⟨1, 8, (.int .i64), [], [.int .i64 0]⟩ := ⟨by kernel_rfl⟩
instance T4 : HasT Try.prog 4 ⟨1, 1, .bool, [], [.bool false]⟩ := ⟨by kernel_rfl⟩
instance T5 : HasT Try.prog 5 ⟨1, 1, (.int .u8), [], [.int .u8 0]⟩ := ⟨by kernel_rfl⟩
instance T6 : HasT Try.prog 6 ⟨1, 1, (.int .u8), [], [.int .u8 0]⟩ := ⟨by kernel_rfl⟩
instance T7 : HasT Try.prog 7 ⟨4, 24, .struct, [(0, 1), (1, 1), (2, 1), (3, 1)], [.int .i64 0, .int .i64 0, .bool false, .int .u8 0]⟩ := ⟨by kernel_rfl⟩
instance T8 : HasT Try.prog 8 ⟨4, 24, .struct, [(0, 1), (1, 1), (2, 1), (3, 1)], [.int .i64 0, .int .i64 0, .bool false, .int .u8 0]⟩ := ⟨by kernel_rfl⟩
instance T9 : HasT Try.prog 9 ⟨1, 16, .str, [], [.string ⟨#[]⟩]⟩ := ⟨by kernel_rfl⟩
instance T10 : HasT Try.prog 10 ⟨1, 16, .str, [], [.string ⟨#[]⟩]⟩ := ⟨by kernel_rfl⟩
instance T11 : HasT Try.prog 11 ⟨1, 16, .str, [], [.string ⟨#[]⟩]⟩ := ⟨by kernel_rfl⟩
instance T12 : HasT Try.prog 12 ⟨1, 8, (.int .u64), [], [.int .u64 0]⟩ := ⟨by kernel_rfl⟩
instance T13 : HasT Try.prog 13 ⟨2, 24, .struct, [(0, 1), (1, 1)], [.string ⟨#[]⟩, .int .u64 0]⟩ := ⟨by kernel_rfl⟩
instance T14 : HasT Try.prog 14 ⟨2, 24, .struct, [(0, 1), (1, 1)], [.string ⟨#[]⟩, .int .u64 0]⟩ := ⟨by kernel_rfl⟩
instance T15 : HasT Try.prog 15 ⟨1, 8, (.ptr 115), [], [.pointer none]⟩ := ⟨by kernel_rfl⟩
instance T16 : HasT Try.prog 16 ⟨1, 8, (.ptr 118), [], [.pointer none]⟩ := ⟨by kernel_rfl⟩
instance T17 : HasT Try.prog 17 ⟨1, 8, (.ptr 126), [], [.pointer none]⟩ := ⟨by kernel_rfl⟩
instance T18 : HasT Try.prog 18 ⟨1, 8, .struct, [(0, 1)], [.pointer none]⟩ := ⟨by kernel_rfl⟩
instance T19 : HasT Try.prog 19 ⟨1, 8, .struct, [(0, 1)], [.pointer none]⟩ := ⟨by kernel_rfl⟩
instance T20 : HasT Try.prog 20 ⟨1, 16, .other, [], [.nilIface]⟩ := ⟨by kernel_rfl⟩
instance T21 : HasT Try.prog 21 ⟨1, 4, (.int .i32), [], [.int .i32 0]⟩ := ⟨by kernel_rfl⟩
instance T22 : HasT Try.prog 22 ⟨1, 24, (.slice 35), [], [nilS]⟩ := ⟨by kernel_rfl⟩
instance T23 : HasT Try.prog 23 ⟨1, 8, (.ptr 53), [], [.pointer none]⟩ := ⟨by kernel_rfl⟩
instance T25 : HasT Try.prog 25 ⟨1, 8, .func, [], [.nilFunc]⟩ := ⟨by kernel_rfl⟩
instance T26 : HasT Try.prog 26 ⟨1, 8, .func, [], [.nilFunc]⟩ := ⟨by kernel_rfl⟩
instance T27 : HasT Try.prog 27 ⟨1, 8, .func, [], [.nilFunc]⟩ := ⟨by kernel_rfl⟩
instance T28 : HasT Try.prog 28 ⟨1, 8, .func, [], [.nilFunc]⟩ := ⟨by kernel_rfl⟩
instance T29 : HasT Try.prog 29 ⟨1, 8, .func, [], [.nilFunc]⟩ := ⟨by kernel_rfl⟩
instance T30 : HasT Try.prog 30 ⟨1, 24, (.slice 3), [], [nilS]⟩ := ⟨by kernel_rfl⟩
instance T31 : HasT Try.prog 31 ⟨1, 8, .func, [], [.nilFunc]⟩ := ⟨by kernel_rfl⟩
instance T32 : HasT Try.prog 32 ⟨1, 8, .func, [], [.nilFunc]⟩ := ⟨by kernel_rfl⟩
instance T33 : HasT Try.prog 33 ⟨1, 8, .func, [], [.nilFunc]⟩ := ⟨by kernel_rfl⟩
instance T34 : HasT Try.prog 34 ⟨2, 16, .struct, [(0, 1), (1, 1)], [.int .i64 0, .int .i64 0]⟩ := ⟨by kernel_rfl⟩
instance T35 : HasT Try.prog 35 ⟨2, 16, .struct, [(0, 1), (1, 1)], [.int .i64 0, .int .i64 0]⟩ := ⟨by kernel_rfl⟩
instance T36 : HasT Try.prog 36 ⟨1, 8, .func, [], [.nilFunc]⟩ := ⟨by kernel_rfl⟩
instance T37 : HasT Try.prog 37 ⟨1, 8, .func, [], [.nilFunc]⟩ := ⟨by kernel_rfl⟩
instance T38 : HasT Try.prog 38 ⟨1, 8, .func, [], [.nilFunc]⟩ := ⟨by kernel_rfl⟩
instance T39 : HasT Try.prog 39 ⟨1, 8, .func, [], [.nilFunc]⟩ := ⟨by kernel_rfl⟩
instance T40 : HasT Try.prog 40 ⟨1, 8, .func, [], [.nilFunc]⟩ := ⟨by kernel_rfl⟩
instance T41 : HasT Try.prog 41 ⟨1, 24, (.slice 5), [], [nilS]⟩ := ⟨by kernel_rfl⟩
instance T42 : HasT Try.prog 42 ⟨1, 8, .func, [], [.nilFunc]⟩ := ⟨by kernel_rfl⟩
instance T43 : HasT Try.prog 43 ⟨1, 8, (.int .i64), [], [.int .i64 0]⟩ := ⟨by kernel_rfl⟩
instance T45 : HasT Try.prog 45 ⟨1, 8, .func, [], [.nilFunc]⟩ := ⟨by kernel_rfl⟩
instance T46 : HasT Try.prog 46 ⟨1, 8, .func, [], [.nilFunc]⟩ := ⟨by kernel_rfl⟩
instance T48 : HasT Try.prog 48 ⟨1, 8, .func, [], [.nilFunc]⟩ := ⟨by kernel_rfl⟩
instance T49 : HasT Try.prog 49 ⟨1, 8, .func, [], [.nilFunc]⟩ := ⟨by kernel_rfl⟩
instance T50 : HasT Try.prog 50 ⟨1, 8, .func, [], [.nilFunc]⟩ := ⟨by kernel_rfl⟩
instance T51 : HasT Try.prog 51 ⟨1, 8, .func, [], [.nilFunc]⟩ := ⟨by kernel_rfl⟩
instance T52 : HasT Try.prog 52 ⟨3, 72, .struct, [(0, 1), (1, 1), (2, 1)], [nilS, nilS, nilS]⟩ := ⟨by kernel_rfl⟩
instance T53 : HasT Try.prog 53 ⟨3, 72, .struct, [(0, 1), (1, 1), (2, 1)], [nilS, nilS, nilS]⟩ := ⟨by kernel_rfl⟩
instance T54 : HasT Try.prog 54 ⟨1, 8, .func, [], [.nilFunc]⟩ := ⟨by kernel_rfl⟩
instance T55 : HasT Try.prog 55 ⟨1, 8, .func, [], [.nilFunc]⟩ := ⟨by kernel_rfl⟩
instance T56 : HasT Try.prog 56 ⟨1, 8, .func, [], [.nilFunc]⟩ := ⟨by kernel_rfl⟩
instance T57 : HasT Try.prog 57 ⟨1, 8, .func, [], [.nilFunc]⟩ := ⟨by kernel_rfl⟩
instance T58 : HasT Try.prog 58 ⟨1, 8, .func, [], [.nilFunc]⟩ := ⟨by kernel_rfl⟩
instance T59 : HasT Try.prog 59 ⟨1, 8, (.int .u64), [], [.int .u64 0]⟩ := ⟨by kernel_rfl⟩
instance T60 : HasT Try.prog 60 ⟨1, 8, .func, [], [.nilFunc]⟩ := ⟨by kernel_rfl⟩
instance T62 : HasT Try.prog 62 ⟨1, 8, .func, [], [.nilFunc]⟩ := ⟨by kernel_rfl⟩
instance T63 : HasT Try.prog 63 ⟨1, 24, (.slice 59), [], [nilS]⟩ := ⟨by kernel_rfl⟩
instance T65 : HasT Try.prog 65 ⟨1, 8, .func, [], [.nilFunc]⟩ := ⟨by kernel_rfl⟩
instance T66 : HasT Try.prog 66 ⟨1, 8, .func, [], [.nilFunc]⟩ := ⟨by kernel_rfl⟩
instance T67 : HasT Try.prog 67 ⟨1, 8, .func, [], [.nilFunc]⟩ := ⟨by kernel_rfl⟩
instance T69 : HasT Try.prog 69 ⟨1, 8, .func, [], [.nilFunc]⟩ := ⟨by kernel_rfl⟩
instance T71 : HasT Try.prog 71 ⟨1, 8, .func, [], [.nilFunc]⟩ := ⟨by kernel_rfl⟩
instance T72 : HasT Try.prog 72 ⟨1, 8, .func, [], [.nilFunc]⟩ := ⟨by kernel_rfl⟩
instance T73 : HasT Try.prog 73 ⟨1, 8, .func, [], [.nilFunc]⟩ := ⟨by kernel_rfl⟩
instance T74 : HasT Try.prog 74 ⟨1, 8, .func, [], [.nilFunc]⟩ := ⟨by kernel_rfl⟩
instance T75 : HasT Try.prog 75 ⟨1, 8, .func, [], [.nilFunc]⟩ := ⟨by kernel_rfl⟩
instance T76 : HasT Try.prog 76 ⟨1, 8, .func, [], [.nilFunc]⟩ := ⟨by kernel_rfl⟩
instance T77 : HasT Try.prog 77 ⟨1, 8, .func, [], [.nilFunc]⟩ := ⟨by kernel_rfl⟩
instance T78 : HasT Try.prog 78 ⟨1, 8, (.int .u64), [], [.int .u64 0]⟩ := ⟨by kernel_rfl⟩
instance T79 : HasT Try.prog 79 ⟨4, 4, (.array 4 5), [], [.int .u8 0, .int .u8 0, .int .u8 0, .int .u8 0]⟩ := ⟨by kernel_rfl⟩
instance T80 : HasT Try.prog 80 ⟨1, 8, .func, [], [.nilFunc]⟩ := ⟨by kernel_rfl⟩
instance T81 : HasT Try.prog 81 ⟨1, 4, (.int .u32), [], [.int .u32 0]⟩ := ⟨by kernel_rfl⟩
instance T82 : HasT Try.prog 82 ⟨1, 8, .func, [], [.nilFunc]⟩ := ⟨by kernel_rfl⟩
instance T83 : HasT Try.prog 83 ⟨1, 8, .func, [], [.nilFunc]⟩ := ⟨by kernel_rfl⟩
instance T84 : HasT Try.prog 84 ⟨1, 8, .func, [], [.nilFunc]⟩ := ⟨by kernel_rfl⟩
instance T85 : HasT Try.prog 85 ⟨1, 8, .func, [], [.nilFunc]⟩ := ⟨by kernel_rfl⟩
instance T86 : HasT Try.prog 86 ⟨1, 8, .func, [], [.nilFunc]⟩ := ⟨by kernel_rfl⟩
instance T87 : HasT Try.prog 87 ⟨1, 8, .func, [], [.nilFunc]⟩ := ⟨by kernel_rfl⟩
instance T88 : HasT Try.prog 88 ⟨16, 64, (.array 16 81), [], [.int .u32 0, .int .u32 0, .int .u32 0, .int .u32 0, .int .u32 0, .int .u32 0, .int .u32 0, .int .u32 0, .int .u32 0, .int .u32 0, .int .u32 0, .int .u32 0, .int .u32 0, .int .u32 0, .int .u32 0, .int .u32 0]⟩ := ⟨by kernel_rfl⟩
instance T89 : HasT Try.prog 89 ⟨1, 8, .func, [], [.nilFunc]⟩ := ⟨by kernel_rfl⟩
instance T90 : HasT Try.prog 90 ⟨1, 8, .func, [], [.nilFunc]⟩ := ⟨by kernel_rfl⟩
instance T91 : HasT Try.prog 91 ⟨1, 8, .func, [], [.nilFunc]⟩ := ⟨by kernel_rfl⟩
instance T92 : HasT Try.prog 92 ⟨1, 8, .func, [], [.nilFunc]⟩ := ⟨by kernel_rfl⟩
instance T93 : HasT Try.prog 93 ⟨1, 8, .func, [], [.nilFunc]⟩ := ⟨by kernel_rfl⟩
instance T94 : HasT Try.prog 94 ⟨1, 8, (.int .i64), [], [.int .i64 0]⟩ := ⟨by kernel_rfl⟩
instance T96 : HasT Try.prog 96 ⟨1, 8, .func, [], [.nilFunc]⟩ := ⟨by kernel_rfl⟩
instance T97 : HasT Try.prog 97 ⟨1, 8, .func, [], [.nilFunc]⟩ := ⟨by kernel_rfl⟩
instance T98 : HasT Try.prog 98 ⟨1, 8, .func, [], [.nilFunc]⟩ := ⟨by kernel_rfl⟩
instance T99 : HasT Try.prog 99 ⟨1, 8, .func, [], [.nilFunc]⟩ := ⟨by kernel_rfl⟩
instance T101 : HasT Try.prog 101 ⟨1, 8, .func, [], [.nilFunc]⟩ := ⟨by kernel_rfl⟩
instance T102 : HasT Try.prog 102 ⟨1, 8, .func, [], [.nilFunc]⟩ := ⟨by kernel_rfl⟩
instance T103 : HasT Try.prog 103 ⟨1, 8, .func, [], [.nilFunc]⟩ := ⟨by kernel_rfl⟩
instance T104 : HasT Try.prog 104 ⟨1, 8, (.int .u64), [], [.int .u64 0]⟩ := ⟨by kernel_rfl⟩
instance T105 : HasT Try.prog 105 ⟨1, 8, .func, [], [.nilFunc]⟩ := ⟨by kernel_rfl⟩
instance T106 : HasT Try.prog 106 ⟨1, 8, .func, [], [.nilFunc]⟩ := ⟨by kernel_rfl⟩
instance T107 : HasT Try.prog 107 ⟨1, 8, .func, [], [.nilFunc]⟩ := ⟨by kernel_rfl⟩
instance T108 : HasT Try.prog 108 ⟨1, 8, (.ptr 3), [], [.pointer none]⟩ := ⟨by kernel_rfl⟩
instance T109 : HasT Try.prog 109 ⟨1, 8, .func, [], [.nilFunc]⟩ := ⟨by kernel_rfl⟩
instance T110 : HasT Try.prog 110 ⟨1, 8, (.ptr 104), [], [.pointer none]⟩ := ⟨by kernel_rfl⟩
instance T112 : HasT Try.prog 112 ⟨1, 8, .func, [], [.nilFunc]⟩ := ⟨by kernel_rfl⟩
instance T113 : HasT Try.prog 113 ⟨1, 8, .func, [], [.nilFunc]⟩ := ⟨by kernel_rfl⟩
instance T114 : HasT Try.prog 114 ⟨4, 40, .struct, [(0, 1), (1, 1), (2, 1), (3, 1)], [.pointer none, .pointer none, .pointer none, .string ⟨#[]⟩]⟩ := ⟨by kernel_rfl⟩
instance T115 : HasT Try.prog 115 ⟨4, 40, .struct, [(0, 1), (1, 1), (2, 1), (3, 1)], [.pointer none, .pointer none, .pointer none, .string ⟨#[]⟩]⟩ := ⟨by kernel_rfl⟩
instance T116 : HasT Try.prog 116 ⟨0, 0, (.array 0 16), [], []⟩ := ⟨by kernel_rfl⟩
instance T117 : HasT Try.prog 117 ⟨0, 0, .struct, [(0, 0)], []⟩ := ⟨by kernel_rfl⟩
instance T118 : HasT Try.prog 118 ⟨0, 0, .struct, [(0, 0)], []⟩ := ⟨by kernel_rfl⟩
instance T119 : HasT Try.prog 119 ⟨1, 1, (.int .u8), [], [.int .u8 0]⟩ := ⟨by kernel_rfl⟩
instance T120 : HasT Try.prog 120 ⟨1, 1, (.int .u8), [], [.int .u8 0]⟩ := ⟨by kernel_rfl⟩
instance T121 : HasT Try.prog 121 ⟨1, 8, .func, [], [.nilFunc]⟩ := ⟨by kernel_rfl⟩
instance T122 : HasT Try.prog 122 ⟨1, 8, (.ptr 5), [], [.pointer none]⟩ := ⟨by kernel_rfl⟩
instance T123 : HasT Try.prog 123 ⟨1, 4, (.int .i32), [], [.int .i32 0]⟩ := ⟨by kernel_rfl⟩
instance T124 : HasT Try.prog 124 ⟨1, 4, (.int .i32), [], [.int .i32 0]⟩ := ⟨by kernel_rfl⟩
instance T125 : HasT Try.prog 125 ⟨11, 48, .struct, [(0, 1), (1, 1), (2, 1), (3, 1), (4, 1), (5, 1), (6, 1), (7, 1), (8, 1), (9, 1), (10, 1)], [.int .u64 0, .int .u64 0, .int .u32 0, .int .u8 0, .int .u8 0, .int .u8 0, .int .u8 0, .nilFunc, .pointer none, .int .i32 0, .int .i32 0]⟩ := ⟨by kernel_rfl⟩
instance T126 : HasT Try.prog 126 ⟨11, 48, .struct, [(0, 1), (1, 1), (2, 1), (3, 1), (4, 1), (5, 1), (6, 1), (7, 1), (8, 1), (9, 1), (10, 1)], [.int .u64 0, .int .u64 0, .int .u32 0, .int .u8 0, .int .u8 0, .int .u8 0, .int .u8 0, .nilFunc, .pointer none, .int .i32 0, .int .i32 0]⟩ := ⟨by kernel_rfl⟩
instance T127 : HasT Try.prog 127 ⟨1, 8, .other, [], [.pointer none]⟩ := ⟨by kernel_rfl⟩
end Go.Proofs.Ytiapeheclfkdmaa
namespace Go.Proofs.Ytiapeheclfkdmaa
open Go.Ab
abbrev Str := ByteArray
abbrev Dstr (s : Str) : D := .lit (.string s)
abbrev Dint (x : Int) : D := .lit (.int .i64 x)
abbrev Dbool (b : Bool) : D := .lit (.bool b)
abbrev Du64 (x : Int) : D := .lit (.int .u64 x)
abbrev Du32 (x : Int) : D := .lit (.int .u32 x)
abbrev Du8 (x : Int) : D := .lit (.int .u8 x)
def ints (l : List Int) : D := .slice (l.map fun x => [Dint x])
def nats (l : List Nat) : D := .slice (l.map fun i => [Dint (i : Nat)])
def u64s (l : List Int) : D := .slice (l.map fun x => [Du64 x])
def bytesL (l : List Int) : D := .slice (l.map fun x => [Du8 x])
abbrev Span := Int × Int
abbrev spc (s : Span) : List D := [Dint s.1, Dint s.2]
def spans (l : List Span) : D := .slice (l.map spc)
abbrev Dsp (s : Span) : D := .agg (spc s)
theorem mix : Try.prog.follows .mixedOrders = true := by kernel_rfl
theorem drop_cons {α : Type} {l : List α} {k : Nat} {x : α} (h : l[k]? = some x) : l.drop k = x :: l.drop (k + 1) := by
  obtain ⟨h1, h2⟩ := List.getElem?_eq_some_iff.1 h
  rw [List.drop_eq_getElem_cons h1, h2]
theorem getD_some {α : Type} {l : List α} {i : Nat} {x y : α} (h : l[i]? = some x) : l.getD i y = x := by simp [List.getD, h]
end Go.Proofs.Ytiapeheclfkdmaa
namespace Go.Srt
variable {α : Type}
def insR (le : α → α → Bool) (y : α) : List α → List α
  | [] => [y]
  | s :: r => if le s y then s :: insR le y r else y :: s :: r
def isort (le : α → α → Bool) (q : List α) : List α := q.foldl (fun acc y => insR le y acc) []
def mrg (le : α → α → Bool) : List α → List α → List α
  | [], ys => ys
  | x :: xs, [] => x :: xs
  | x :: xs, y :: ys => if le x y then x :: mrg le xs (y :: ys) else y :: mrg le (x :: xs) ys
termination_by xs ys => xs.length + ys.length
/-- ascending -/
abbrev Asc (le : α → α → Bool) (l : List α) : Prop := l.Pairwise (fun a b => le a b = true)
structure Ord (le : α → α → Bool) : Prop where
  trans : ∀ a b c, le a b = true → le b c = true → le a c = true
  total : ∀ a b, le a b = true ∨ le b a = true
variable {le : α → α → Bool}
theorem mrg_nil (xs : List α) : mrg le xs [] = xs := by cases xs <;> simp [mrg]
theorem nil_mrg (xs : List α) : mrg le [] xs = xs := by simp [mrg]
theorem mrg_cons (x : α) (xs : List α) (y : α) (ys : List α) : mrg le (x :: xs) (y :: ys) = if le x y then x :: mrg le xs (y :: ys) else y :: mrg le (x :: xs) ys := by rw [mrg]
theorem mrg_one (S : List α) (y : α) : mrg le S [y] = insR le y S := by
  induction S with
  | nil => simp [mrg, insR]
  | cons s S ih =>
    rw [mrg_cons, insR, ih, mrg_nil]
theorem one_mrg_lt (x y : α) (T : List α) : mrg le [x] (y :: T) = if le x y then x :: y :: T else y :: mrg le [x] T := by
  rw [mrg_cons, nil_mrg]
theorem mrg_insR (ho : Ord le) (y : α) : ∀ S T : List α, mrg le S (insR le y T) = insR le y (mrg le S T)
  | [], T => by rw [nil_mrg, nil_mrg]
  | s :: S, [] => by rw [mrg_nil, insR, mrg_one]
  | s :: S, t :: T => by
    rw [mrg_cons, insR]
    by_cases hst : le s t = true
    · rw [if_pos hst, insR]
      by_cases hty : le t y = true
      · rw [if_pos hty, mrg_cons, if_pos hst, if_pos (ho.trans _ _ _ hst hty)]
        have := mrg_insR ho y S (t :: T)
        rw [insR, if_pos hty] at this
        rw [this]
      · rw [if_neg hty, mrg_cons]
        by_cases hsy : le s y = true
        · rw [if_pos hsy, if_pos hsy]
          have := mrg_insR ho y S (t :: T)
          rw [insR, if_neg hty] at this
          rw [this]
        · rw [if_neg hsy, if_neg hsy, mrg_cons, if_pos hst]
    · rw [if_neg hst, insR]
      by_cases hty : le t y = true
      · rw [if_pos hty, if_pos hty, mrg_cons, if_neg hst, mrg_insR ho y (s :: S) T]
      · rw [if_neg hty, if_neg hty, mrg_cons]
        have hyt : le y t = true := by rcases ho.total t y with h | h; exact absurd h hty; exact h
        have hsy : ¬ le s y = true := fun h => hst (ho.trans _ _ _ h hyt)
        rw [if_neg hsy, mrg_cons, if_neg hst]
termination_by S T => S.length + T.length
theorem isort_snoc (q : List α) (y : α) : isort le (q ++ [y]) = insR le y (isort le q) := by simp [isort, List.foldl_append]
theorem isort_nil : isort le ([] : List α) = [] := rfl
theorem isort_one (x : α) : isort le [x] = [x] := rfl
theorem snoc_ind {p : List α → Prop} (h0 : p []) (hs : ∀ L x, p L → p (L ++ [x])) : ∀ L, p L := by
  intro L
  have : ∀ n (L : List α), L.length = n → p L := by
    intro n
    induction n with
    | zero => intro L h; have := List.length_eq_zero_iff.1 h; subst this; exact h0
    | succ n ih =>
      intro L h
      have hne : L ≠ [] := by intro h'; subst h'; simp at h
      rw [← List.dropLast_concat_getLast hne]
      exact hs _ _ (ih _ (by simp [h]))
  exact this _ L rfl
theorem isort_append (ho : Ord le) (X : List α) : ∀ Y : List α, mrg le (isort le X) (isort le Y) = isort le (X ++ Y) := by
  intro Y
  induction Y using snoc_ind with
  | h0 => simp [isort_nil, mrg_nil]
  | hs L x ih => rw [isort_snoc, mrg_insR ho, ih, ← List.append_assoc, isort_snoc]
theorem insR_length (y : α) (S : List α) : (insR le y S).length = S.length + 1 := by
  induction S with
  | nil => rfl
  | cons s S ih => rw [insR]; split <;> simp [ih]
theorem isort_length : ∀ (q : List α), (isort le q).length = q.length := by
  intro q
  induction q using snoc_ind with
  | h0 => rfl
  | hs L x ih => rw [isort_snoc, insR_length, ih]; simp
theorem insR_perm (y : α) (S : List α) : (insR le y S).Perm (y :: S) := by
  induction S with
  | nil => exact List.Perm.refl _
  | cons s S ih =>
    rw [insR]; split
    · exact (List.Perm.cons s ih).trans (List.Perm.swap y s S)
    · exact List.Perm.refl _
theorem isort_perm : ∀ (q : List α), (isort le q).Perm q := by
  intro q
  induction q using snoc_ind with
  | h0 => exact List.Perm.refl _
  | hs L x ih =>
    rw [isort_snoc]
    exact (insR_perm x _).trans ((List.Perm.cons x ih).trans (List.perm_append_singleton x L).symm)
theorem mrg_perm : ∀ (S T : List α), (mrg le S T).Perm (S ++ T)
  | [], T => by rw [nil_mrg]; exact List.Perm.refl _
  | s :: S, [] => by rw [mrg_nil]; simp
  | s :: S, t :: T => by
    rw [mrg_cons]; split
    · exact List.Perm.cons s (mrg_perm S (t :: T))
    · exact (List.Perm.cons t (mrg_perm (s :: S) T)).trans List.perm_middle.symm
termination_by S T => S.length + T.length
theorem mrg_length (S T : List α) : (mrg le S T).length = S.length + T.length := by rw [(mrg_perm S T).length_eq, List.length_append]
theorem insR_asc (ho : Ord le) (y : α) : ∀ S : List α, Asc le S → Asc le (insR le y S)
  | [], _ => by simp [insR]
  | s :: S, h => by
    have h := List.pairwise_cons.1 h
    rw [insR]; split
    · rename_i hs
      rw [Asc, List.pairwise_cons]
      refine ⟨fun a ha => ?_, insR_asc ho y S h.2⟩
      have := (insR_perm (le := le) y S).mem_iff.1 ha
      simp only [List.mem_cons] at this
      rcases this with rfl | hm
      · exact hs
      · exact h.1 a hm
    · rename_i hs
      have hys : le y s = true := by rcases ho.total s y with h' | h'; exact absurd h' hs; exact h'
      rw [Asc, List.pairwise_cons, List.pairwise_cons]
      refine ⟨fun a ha => ?_, h.1, h.2⟩
      simp only [List.mem_cons] at ha
      rcases ha with rfl | hm
      · exact hys
      · exact ho.trans _ _ _ hys (h.1 a hm)
theorem isort_asc (ho : Ord le) : ∀ (q : List α), Asc le (isort le q) := by
  intro q
  induction q using snoc_ind with
  | h0 => simp [isort_nil]
  | hs L x ih => rw [isort_snoc]; exact insR_asc ho x _ ih
theorem mrg_asc (ho : Ord le) : ∀ (S T : List α), Asc le S → Asc le T → Asc le (mrg le S T)
  | [], T, _, h => by rw [nil_mrg]; exact h
  | s :: S, [], h, _ => by rw [mrg_nil]; exact h
  | s :: S, t :: T, hS, hT => by
    have hS' := List.pairwise_cons.1 hS
    have hT' := List.pairwise_cons.1 hT
    rw [mrg_cons]; split
    · rename_i hst
      rw [Asc, List.pairwise_cons]
      refine ⟨fun a ha => ?_, mrg_asc ho S (t :: T) hS'.2 hT⟩
      have := (mrg_perm (le := le) S (t :: T)).mem_iff.1 ha
      simp only [List.mem_append, List.mem_cons] at this
      rcases this with h | rfl | h
      · exact hS'.1 a h
      · exact hst
      · exact ho.trans _ _ _ hst (hT'.1 a h)
    · rename_i hst
      have hts : le t s = true := by rcases ho.total s t with h' | h'; exact absurd h' hst; exact h'
      rw [Asc, List.pairwise_cons]
      refine ⟨fun a ha => ?_, mrg_asc ho (s :: S) T hS hT'.2⟩
      have := (mrg_perm (le := le) (s :: S) T).mem_iff.1 ha
      simp only [List.cons_append, List.mem_cons, List.mem_append] at this
      rcases this with rfl | h | h
      · exact hts
      · exact ho.trans _ _ _ hts (hS'.1 a h)
      · exact hT'.1 a h
termination_by S T => S.length + T.length
/-- an ascending list is sorted already -/
theorem insR_last (y : α) : ∀ S : List α, (∀ s ∈ S, le s y = true) → insR le y S = S ++ [y]
  | [], _ => rfl
  | s :: S, h => by
    rw [insR, if_pos (h s (by simp)), insR_last y S fun a ha => h a (by simp [ha])]; rfl
theorem isort_of_asc : ∀ (q : List α), Asc le q → isort le q = q := by
  intro q
  induction q using snoc_ind with
  | h0 => intro _; rfl
  | hs L x ih =>
    intro h
    have h := List.pairwise_append.1 h
    rw [isort_snoc, ih h.1, insR_last x L fun s hs => h.2.2 s hs x (by simp)]
/-- where y goes -/
theorem insR_mid (y : α) : ∀ S1 S2 : List α, (∀ s ∈ S1, le s y = true) → (∀ s ∈ S2, le s y = false) → insR le y (S1 ++ S2) = S1 ++ y :: S2
  | [], [], _, _ => rfl
  | [], s :: S, _, h => by
    have := h s (by simp)
    rw [List.nil_append, insR, if_neg (by simp [this])]; rfl
  | s :: S, S2, h, h' => by
    rw [List.cons_append, insR, if_pos (h s (by simp)), insR_mid y S S2 (fun a ha => h a (by simp [ha])) h']; rfl
/-- merging by parts -/
theorem mrg_split : ∀ X1 Y1 X2 Y2 : List α, (∀ x ∈ X1, ∀ y ∈ Y2, le x y = true) → (∀ y ∈ Y1, ∀ x ∈ X2, le x y = false) → mrg le (X1 ++ X2) (Y1 ++ Y2) = mrg le X1 Y1 ++ mrg le X2 Y2
  | [], [], X2, Y2, _, _ => by rw [mrg_nil]; rfl
  | [], y :: Y1, X2, Y2, h1, h2 => by
    rw [List.nil_append, nil_mrg]
    cases X2 with
    | nil => rw [nil_mrg, nil_mrg]
    | cons x X2 =>
      rw [List.cons_append, mrg_cons, if_neg (by simp [h2 y (by simp) x (by simp)])]
      have := mrg_split [] Y1 (x :: X2) Y2 (by simp) fun a ha b hb => h2 a (by simp [ha]) b hb
      rw [List.nil_append, nil_mrg] at this
      rw [this]; rfl
  | x :: X1, [], X2, Y2, h1, h2 => by
    rw [List.nil_append, mrg_nil]
    cases Y2 with
    | nil => rw [mrg_nil, mrg_nil]
    | cons y Y2 =>
      rw [List.cons_append, mrg_cons, if_pos (h1 x (by simp) y (by simp))]
      have := mrg_split X1 [] X2 (y :: Y2) (fun a ha b hb => h1 a (by simp [ha]) b hb) (by simp)
      rw [List.nil_append, mrg_nil] at this
      rw [this]; rfl
  | x :: X1, y :: Y1, X2, Y2, h1, h2 => by
    rw [List.cons_append, List.cons_append, mrg_cons, mrg_cons]
    split
    · have := mrg_split X1 (y :: Y1) X2 Y2 (fun a ha b hb => h1 a (by simp [ha]) b hb) h2
      rw [List.cons_append] at this
      rw [this]; rfl
    · have := mrg_split (x :: X1) Y1 X2 Y2 h1 fun a ha b hb => h2 a (by simp [ha]) b hb
      rw [List.cons_append] at this
      rw [this]; rfl
termination_by X1 Y1 => X1.length + Y1.length
/-- one element in front of others -/
theorem one_mrg (x : α) : ∀ Y1 Y2 : List α, (∀ y ∈ Y1, le x y = false) → (∀ y ∈ Y2, le x y = true) → mrg le [x] (Y1 ++ Y2) = Y1 ++ x :: Y2 := by
  intro Y1 Y2 h1 h2
  have := mrg_split [] Y1 [x] Y2 (by simp) (fun y hy a ha => by simp at ha; subst ha; exact h1 y hy)
  rw [List.nil_append, nil_mrg] at this
  rw [this]
  cases Y2 with
  | nil => rw [mrg_nil]
  | cons y Y2 => rw [mrg_cons, if_pos (h2 y (by simp)), nil_mrg]
end Go.Srt
namespace Go.Srt
variable {α : Type} {le : α → α → Bool}
theorem Ord.refl' (ho : Ord le) (a : α) : le a a = true := by rcases ho.total a a with h | h <;> exact h
theorem asc_get (ho : Ord le) {L : List α} (h : Asc le L) {i j : Nat} {u v : α} (hij : i ≤ j) (hu : L[i]? = some u) (hv : L[j]? = some v) : le u v = true := by
  obtain ⟨hi, rfl⟩ := List.getElem?_eq_some_iff.1 hu
  obtain ⟨hj, rfl⟩ := List.getElem?_eq_some_iff.1 hv
  by_cases e : i = j
  · subst e; exact ho.refl' _
  · exact List.pairwise_iff_getElem.1 h i j hi hj (by omega)
theorem one_of {L : List α} (h : L.length = 1) : ∃ x, L = [x] := List.length_eq_one_iff.1 h
/-- a list cut at a place -/
theorem cut_at (L : List α) (n : Nat) (h : n ≤ L.length) : ∃ A B, L = A ++ B ∧ A.length = n := ⟨L.take n, L.drop n, (List.take_append_drop _ _).symm, by rw [List.length_take]; omega⟩
theorem mem_app_left {A B : List α} {x : α} (h : x ∈ A) : ∃ q, q < A.length ∧ (A ++ B)[q]? = some x := by
  obtain ⟨q, hq, rfl⟩ := List.getElem_of_mem h
  exact ⟨q, hq, by rw [List.getElem?_append_left hq, List.getElem?_eq_getElem hq]⟩
theorem mem_app_right {A B : List α} {x : α} (h : x ∈ B) : ∃ q, A.length ≤ q ∧ (A ++ B)[q]? = some x := by
  obtain ⟨q, hq, rfl⟩ := List.getElem_of_mem h
  exact ⟨A.length + q, by omega, by rw [List.getElem?_append_right (by omega), Nat.add_sub_cancel_left, List.getElem?_eq_getElem hq]⟩
theorem get_left {A B : List α} {x : α} {i : Nat} (h : A[i]? = some x) : (A ++ B)[i]? = some x := by
  obtain ⟨hi, rfl⟩ := List.getElem?_eq_some_iff.1 h
  rw [List.getElem?_append_left hi, h]
theorem get_right {A B : List α} {x : α} {i j : Nat} (hj : A.length + j = i) (h : B[j]? = some x) : (A ++ B)[i]? = some x := by
  subst hj
  rw [List.getElem?_append_right (by omega), Nat.add_sub_cancel_left, h]
theorem snoc_cases (L : List α) : L = [] ∨ ∃ A x, L = A ++ [x] := by
  cases L with
  | nil => exact .inl rfl
  | cons a L => exact .inr ⟨(a :: L).dropLast, (a :: L).getLast (by simp), (List.dropLast_concat_getLast (by simp)).symm⟩
/-- the parts that a merge's middle gives -/
theorem sym_parts (ho : Ord le) {X1 X2 Y1 Y2 : List α} (hX : Asc le (X1 ++ X2)) (hY : Asc le (Y1 ++ Y2))
    (h1 : ∀ u v, X1.getLast? = some u → Y2.head? = some v → le u v = true) (h2 : ∀ u v, Y1.getLast? = some u → X2.head? = some v → le v u = false) :
    mrg le (X1 ++ X2) (Y1 ++ Y2) = mrg le X1 Y1 ++ mrg le X2 Y2 := by
  refine mrg_split X1 Y1 X2 Y2 (fun x hx y hy => ?_) fun y hy x hx => ?_
  · rcases Go.Srt.snoc_cases X1 with rfl | ⟨A, u, rfl⟩
    · simp at hx
    · cases Y2 with
      | nil => simp at hy
      | cons v B =>
        have huv := h1 u v (by simp) (by simp)
        have hxu : le x u = true := by
          simp only [List.mem_append, List.mem_singleton] at hx
          rcases hx with hx | rfl
          · exact (List.pairwise_append.1 (List.pairwise_append.1 hX).1).2.2 x hx u (by simp)
          · exact ho.refl' _
        have hvy : le v y = true := by
          simp only [List.mem_cons] at hy
          rcases hy with rfl | hy
          · exact ho.refl' _
          · exact (List.pairwise_cons.1 (List.pairwise_append.1 hY).2.1).1 y hy
        exact ho.trans _ _ _ hxu (ho.trans _ _ _ huv hvy)
  · rcases Go.Srt.snoc_cases Y1 with rfl | ⟨A, u, rfl⟩
    · simp at hy
    · cases X2 with
      | nil => simp at hx
      | cons v B =>
        have huv := h2 u v (by simp) (by simp)
        have hyu : le y u = true := by
          simp only [List.mem_append, List.mem_singleton] at hy
          rcases hy with hy | rfl
          · exact (List.pairwise_append.1 (List.pairwise_append.1 hY).1).2.2 y hy u (by simp)
          · exact ho.refl' _
        have hvx : le v x = true := by
          simp only [List.mem_cons] at hx
          rcases hx with rfl | hx
          · exact ho.refl' _
          · exact (List.pairwise_cons.1 (List.pairwise_append.1 hX).2.1).1 x hx
        cases hxy : le x y with
        | false => rfl
        | true =>
          have := ho.trans _ _ _ hvx (ho.trans _ _ _ hxy hyu)
          rw [this] at huv; cases huv
/-- sorted in chunks -/
def csort (le : α → α → Bool) (bs : Nat) (q : List α) : List α :=
  if h : bs = 0 ∨ q.length ≤ bs then isort le q else isort le (q.take bs) ++ csort le bs (q.drop bs)
termination_by q.length
decreasing_by rw [List.length_drop]; omega
theorem csort_small {bs : Nat} {q : List α} (h : q.length ≤ bs) : csort le bs q = isort le q := by
  rw [csort, dif_pos (.inr h)]
theorem csort_app {bs : Nat} (hb : 0 < bs) (A B : List α) (hA : A.length = bs) : csort le bs (A ++ B) = isort le A ++ csort le bs B := by
  by_cases hB : B.length = 0
  · have : B = [] := List.length_eq_zero_iff.1 hB
    subst this
    rw [List.append_nil, csort_small (by omega), csort_small (by simp), isort_nil, List.append_nil]
  · rw [csort, dif_neg (by rw [List.length_append]; omega), List.take_left' hA, List.drop_left' hA]
theorem csort_length {bs : Nat} : ∀ (n : Nat) (q : List α), q.length ≤ n → (csort le bs q).length = q.length := by
  intro n
  induction n with
  | zero => intro q h; rw [csort_small (by omega), isort_length]
  | succ n ih =>
    intro q h
    rw [csort]
    split
    · exact isort_length q
    · rename_i hh
      rw [List.length_append, isort_length, ih _ (by rw [List.length_drop]; omega), List.length_take, List.length_drop]
      omega
end Go.Srt
