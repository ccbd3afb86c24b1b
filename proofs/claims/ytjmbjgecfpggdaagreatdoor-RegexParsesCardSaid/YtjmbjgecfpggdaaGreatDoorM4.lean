/- A part of the proof: Z4. -/
import Derived.Test.YtjmbjgecfpggdaaGreatDoorM39
import Derived.Test.YtjmbjgecfpggdaaGreatDoorMX26
set_option linter.all false
set_option linter.unusedVariables false
set_option linter.unusedSimpArgs false
namespace Go.Proofs.YtjmbjgecfpggdaaGreatDoor
open Go.Ab Go.Rx
set_option maxHeartbeats 20000000
set_option maxRecDepth 100000
attribute [local irreducible] Run Ops Op1 z2q Val Tr z1p z2j NF Rel z5b z5c z84
/-- the units of a text -/
structure Un5 (s : ByteArray) (us : List U) (qs : List Uq) : Prop where
 len : qs.length = us.length
 get : ∀ (i : Nat) (u : U), us[i]? = some u → ∃ n ok, qs[i]? = some (u.r, ((s.size - bts (us.drop i) : Nat) : Int), n, ok)
 few : us.length ≤ 1000000
 rng : ∀ u ∈ us, 0 ≤ u.r ∧ u.r ≤ 1114111
/-- the reference's reader: the text, its units, the number of the next one, the error -/
abbrev rbx (s : ByteArray) (qs : List Uq) (i a e : Int) (o : Bool) : Blk := .box [S s, .d (.slice (qs.map uqc)), I .i64 i, I .i64 a, I .i64 e, B o]
abbrev pl (s : ByteArray) (us : List U) (i : Nat) : Int := ((s.size - bts (us.drop i) : Nat) : Int)
def bkS (s : ByteArray) (us : List U) (qs : List Uq) : Sr → Blk
 | .ok r => rbx s qs ((us.length - r.length : Nat) : Int) 0 0 false
 | .er r a c => rbx s qs ((us.length - r.length : Nat) : Int) ((s.size - bts a : Nat) : Int) c true
section
variable {s : ByteArray} {us : List U} {qs : List Uq}
theorem z3j {i : Nat} (hi : i ≤ us.length) : bkS s us qs (.ok (us.drop i)) = rbx s qs (i : Nat) 0 0 false := by
 rw [bkS, List.length_drop, show us.length - (us.length - i) = i by omega]
theorem z5r {i k : Nat} {c : Int} (hi : i ≤ us.length) : bkS s us qs (.er (us.drop i) (us.drop k) c) = rbx s qs (i : Nat) (pl s us k) c true := by
 rw [bkS, List.length_drop, show us.length - (us.length - i) = i by omega]
variable {X : Nat} (hu : Un5 s us qs)
include hu
theorem z81 (i : Nat) (hi : i ≤ us.length) (a e : Int) (e0 : Nat) : z2j Tryz.prog 35 [.ptr (e0, X) 0] [((e0, X), rbx s qs i a e false)] [] (I .i32 (nx (us.drop i))) := by
 refine z2k fun H hH => ?_
 have hX : H e0 X = some (rbx s qs i a e false) := hH ((e0, X), rbx s qs i a e false) (by simp)
 have hln := hu.len
 have hfw := hu.few
 refine z1c Tryz.func35 (by kernel_rfl) rfl (by simp) ?_
 dsimp only [Tryz.f35]
 by_cases hlt : i < us.length
 · obtain ⟨u, hus⟩ : ∃ u, us[i]? = some u := ⟨_, List.getElem?_eq_getElem hlt⟩
   obtain ⟨n, ok, hq⟩ := hu.get i u hus
   rw [drop_cons hus]
   repeat' (first | (apply z0e; (refine z11 rfl (by decide) ?_)) | (apply z0b; (first | refine z10 ?_ | apply z0d)) | (apply z0c; (first | apply z0f | apply z01 | apply z09 | apply z56 | refine z1i rfl (fun _ => ?_) (fun _ => ?_))) | (apply z57; (first | (apply z2g; refine z3o mix (by kernel_rfl) ?_) | refine z5i rfl (by first | exact rfl | exact ⟨_, rfl, rfl, rfl⟩) (by decide) ?_ | (apply z1r; (first | refine z6d (by first | exact rfl | exact ⟨_, rfl, rfl, rfl⟩) rfl hX rfl rfl rfl rfl (by decide) ?_ | refine z1d (z4s rfl rfl rfl) (by first | exact rfl | exact ⟨_, rfl, rfl, rfl⟩) rfl rfl (by decide) ?_)) | (apply z1l; (first | refine z1d (z04 rfl rfl) (by first | exact rfl | exact ⟨_, rfl, rfl, rfl⟩) rfl rfl (by decide) ?_ | refine z1d (z7v rfl rfl) (by first | exact rfl | exact ⟨_, rfl, rfl, rfl⟩) rfl rfl (by decide) ?_)) | (apply z47; (refine z1d (z1b (ys := qs.map uqc) rfl (by omega) (idx hq) rfl) (by first | exact rfl | exact ⟨_, rfl, rfl, rfl⟩) rfl rfl (by decide) ?_)) | (apply z4u; (refine z1d (z1q rfl) (by first | exact rfl | exact ⟨_, rfl, rfl, rfl⟩) rfl rfl (by decide) ?_)))))
   all_goals try (exfalso; omega)
   all_goals exact z0g Tryz.func35 _ (z0j rfl rfl) ⟨rfl, rfl⟩
 · rw [List.drop_eq_nil_of_le (by omega)]
   repeat' (first | (apply z0e; (refine z11 rfl (by decide) ?_)) | (apply z0b; (first | refine z10 ?_ | apply z0d)) | (apply z0c; (first | apply z0f | apply z01 | apply z09 | apply z56 | refine z1i rfl (fun _ => ?_) (fun _ => ?_))) | (apply z57; (first | (apply z2g; refine z3o mix (by kernel_rfl) ?_) | refine z5i rfl (by first | exact rfl | exact ⟨_, rfl, rfl, rfl⟩) (by decide) ?_ | (apply z1r; (refine z6d (by first | exact rfl | exact ⟨_, rfl, rfl, rfl⟩) rfl hX rfl rfl rfl rfl (by decide) ?_)) | (apply z1l; (refine z1d (z04 rfl rfl) (by first | exact rfl | exact ⟨_, rfl, rfl, rfl⟩) rfl rfl (by decide) ?_)) | (apply z4u; (refine z1d (z1q rfl) (by first | exact rfl | exact ⟨_, rfl, rfl, rfl⟩) rfl rfl (by decide) ?_)))))
   all_goals try (exfalso; omega)
   all_goals exact z0g Tryz.func35 _ (z0j rfl rfl) ⟨rfl, rfl⟩
theorem zj2 (i : Nat) (a e : Int) (e0 : Nat) : z2j Tryz.prog 35 [.ptr (e0, X) 0] [((e0, X), rbx s qs i a e true)] [] (I .i32 (-1)) := by
 refine z2k fun H hH => ?_
 have hX : H e0 X = some (rbx s qs i a e true) := hH ((e0, X), rbx s qs i a e true) (by simp)
 refine z1c Tryz.func35 (by kernel_rfl) rfl (by simp) ?_
 dsimp only [Tryz.f35]
 repeat' (first | (apply z0e; (refine z11 rfl (by decide) ?_)) | (apply z0b; (first | refine z10 ?_ | apply z0d)) | (apply z0c; (first | apply z0f | apply z01 | refine z0r rfl ?_ | apply z56)) | (apply z57; (first | (apply z2g; refine z3o mix (by kernel_rfl) ?_) | refine z4j rfl rfl (by decide) ?_ | refine z5i rfl (by first | exact rfl | exact ⟨_, rfl, rfl, rfl⟩) (by decide) ?_ | (apply z1r; (refine z6d (by first | exact rfl | exact ⟨_, rfl, rfl, rfl⟩) rfl hX rfl rfl rfl rfl (by decide) ?_)) | (apply z1l; (refine z1d (z04 rfl rfl) (by first | exact rfl | exact ⟨_, rfl, rfl, rfl⟩) rfl rfl (by decide) ?_)))))
 all_goals try (exfalso; omega)
 all_goals exact z0g Tryz.func35 _ (z0j rfl rfl) ⟨rfl, rfl⟩
theorem z9w (i : Nat) (hi : i ≤ us.length) (p a e : Int) (o : Bool) (e0 : Nat) : z2j Tryz.prog 37 [.ptr (e0, X) 0, I .i64 (i : Nat)] [((e0, X), rbx s qs p a e o)] [] (I .i64 (pl s us i)) := by
 refine z2k fun H hH => ?_
 have hX : H e0 X = some (rbx s qs p a e o) := hH ((e0, X), rbx s qs p a e o) (by simp)
 have hln := hu.len
 have hfw := hu.few
 refine z1c Tryz.func37 (by kernel_rfl) rfl (by simp) ?_
 dsimp only [Tryz.f37]
 by_cases hlt : i < us.length
 · obtain ⟨u, hus⟩ : ∃ u, us[i]? = some u := ⟨_, List.getElem?_eq_getElem hlt⟩
   obtain ⟨n, ok, hq⟩ := hu.get i u hus
   repeat' (first | (apply z0e; (first | refine z11 rfl (by decide) ?_ | (apply z0a; (first | refine z0q rfl hX rfl rfl rfl rfl (by decide) ?_ | refine z00 (z4s rfl rfl rfl) rfl rfl (by decide) ?_)) | (apply z07; (first | refine z00 (z04 rfl rfl) rfl rfl (by decide) ?_ | refine z00 (z7v rfl rfl) rfl rfl (by decide) ?_)) | (apply z1f; (refine z00 (z1b (ys := qs.map uqc) rfl (by omega) (idx hq) rfl) rfl rfl (by decide) ?_)) | (apply z1e; (first | refine z00 (z1q rfl) rfl rfl (by decide) ?_ | refine z00 (z3v rfl) rfl rfl (by decide) ?_)))) | (apply z0b; (first | refine z10 ?_ | apply z0d)) | (apply z0c; (first | apply z0f | apply z01 | apply z09 | refine z1i rfl (fun _ => ?_) (fun _ => ?_))))
   all_goals try (exfalso; omega)
   all_goals exact z0g Tryz.func37 _ (z0j rfl rfl) ⟨rfl, rfl⟩
 · rw [pl, List.drop_eq_nil_of_le (by omega), bts, Nat.sub_zero]
   repeat' (first | (apply z0e; (first | refine z11 rfl (by decide) ?_ | (apply z0a; (refine z0q rfl hX rfl rfl rfl rfl (by decide) ?_)) | (apply z07; (refine z00 (z04 rfl rfl) rfl rfl (by decide) ?_)) | (apply z1e; (first | refine z00 (z1q rfl) rfl rfl (by decide) ?_ | refine z00 (z3v rfl) rfl rfl (by decide) ?_)))) | (apply z0b; (first | refine z10 ?_ | apply z0d)) | (apply z0c; (first | apply z0f | apply z01 | apply z09 | refine z1i rfl (fun _ => ?_) (fun _ => ?_))))
   all_goals try (exfalso; omega)
   all_goals exact z0g Tryz.func37 _ (z0j rfl rfl) ⟨rfl, rfl⟩
omit hu in
theorem ziv (i p n : Int) (e0 : Nat) : z2j Tryz.prog 36 [.ptr (e0, X) 0, I .i64 p, I .i64 n] [((e0, X), rbx s qs i 0 0 false)] [((e0, X), rbx s qs i p n true)] (.tup []) := by
 refine z2k fun H hH => ?_
 have hX : H e0 X = some (rbx s qs i 0 0 false) := hH ((e0, X), rbx s qs i 0 0 false) (by simp)
 refine z1c Tryz.func36 (by kernel_rfl) rfl (by simp) ?_
 dsimp only [Tryz.f36]
 repeat' (first | (apply z0e; (first | refine z11 rfl (by decide) ?_ | (apply z0a; (refine z0q rfl hX rfl rfl rfl rfl (by decide) ?_)) | (apply z07; (refine z00 (z04 rfl rfl) rfl rfl (by decide) ?_)) | (apply z05; (first | refine z0w (raw' := rbx s qs i p n true) rfl (z02 _ (e0, X) _) rfl rfl rfl rfl rfl rfl ?_ | refine z0w (raw' := rbx s qs i p n false) rfl (z02 _ (e0, X) _) rfl rfl rfl rfl rfl rfl ?_ | refine z0w (raw' := rbx s qs i p 0 false) rfl hX rfl rfl rfl rfl rfl rfl ?_)))) | (apply z0b; (first | refine z10 ?_ | apply z0d)) | (apply z0c; (first | apply z0f | apply z01 | refine z0r rfl ?_)))
 all_goals try (exfalso; omega)
 all_goals ((repeat rw [z0i]); exact zdv Tryz.func36 _ (z4l rfl) ⟨rfl, rfl⟩)
omit hu in
theorem zq6 (i a e p n : Int) (e0 : Nat) : z2j Tryz.prog 36 [.ptr (e0, X) 0, I .i64 p, I .i64 n] [((e0, X), rbx s qs i a e true)] [] (.tup []) := by
 refine z2k fun H hH => ?_
 have hX : H e0 X = some (rbx s qs i a e true) := hH ((e0, X), rbx s qs i a e true) (by simp)
 refine z1c Tryz.func36 (by kernel_rfl) rfl (by simp) ?_
 dsimp only [Tryz.f36]
 repeat' (first | (apply z0e; (first | refine z11 rfl (by decide) ?_ | (apply z0a; (refine z0q rfl hX rfl rfl rfl rfl (by decide) ?_)) | (apply z07; (refine z00 (z04 rfl rfl) rfl rfl (by decide) ?_)))) | (apply z0b; (first | refine z10 ?_ | apply z0d)) | (apply z0c; (first | apply z0f | apply z01 | refine z0h rfl ?_ | apply z09)))
 all_goals try (exfalso; omega)
 all_goals exact zdv Tryz.func36 _ (z4l rfl) ⟨rfl, rfl⟩
theorem zj6 (i : Nat) (hi : i ≤ us.length) (e0 : Nat) : z2j Tryz.prog 19 [.ptr (e0, X) 0] [((e0, X), rbx s qs i 0 0 false)] [((e0, X), rbx s qs i (pl s us i) 3 true)] (.tup []) := by
 refine z2k fun H hH => ?_
 have hX : H e0 X = some (rbx s qs i 0 0 false) := hH ((e0, X), rbx s qs i 0 0 false) (by simp)
 have hp := z9w (X := X) hu i hi i 0 0 false (e0 + 1)
 have hf := ziv (X := X) (s := s) (qs := qs) i (pl s us i) 3 (e0 + 1)
 refine z1c Tryz.func19 (by kernel_rfl) rfl (by simp) ?_
 dsimp only [Tryz.f19]
 repeat' (first | (apply z0e; (first | refine z11 rfl (by decide) ?_ | (apply z0a; (refine z0q rfl hX rfl rfl rfl rfl (by decide) ?_)) | (apply z07; (refine z00 (z04 rfl rfl) rfl rfl (by decide) ?_)) | (apply z0o; (first | refine z0v hf rfl hX z1k (by decide) ?_ | refine z0m hp rfl (bk1 (m := (e0 + 1, X)) hX) (by decide) ?_)))) | (apply z0b; (first | refine z10 ?_ | apply z0d)) | (apply z0c; (apply z01)))
 all_goals try (exfalso; omega)
 all_goals exact zdv Tryz.func19 _ (z4l rfl) ⟨rfl, rfl⟩
theorem zux (i : Nat) (hi : i ≤ us.length) (a e : Int) (e0 : Nat) : z2j Tryz.prog 19 [.ptr (e0, X) 0] [((e0, X), rbx s qs i a e true)] [] (.tup []) := by
 refine z2k fun H hH => ?_
 have hX : H e0 X = some (rbx s qs i a e true) := hH ((e0, X), rbx s qs i a e true) (by simp)
 have hp := z9w (X := X) hu i hi i a e true (e0 + 1)
 have hf := zq6 (X := X) (s := s) (qs := qs) i a e (pl s us i) 3 (e0 + 1)
 refine z1c Tryz.func19 (by kernel_rfl) rfl (by simp) ?_
 dsimp only [Tryz.f19]
 repeat' (first | (apply z0e; (first | refine z11 rfl (by decide) ?_ | (apply z0a; (refine z0q rfl hX rfl rfl rfl rfl (by decide) ?_)) | (apply z07; (refine z00 (z04 rfl rfl) rfl rfl (by decide) ?_)) | (apply z0o; (first | refine z0m hf rfl (bk1 (m := (e0 + 1, X)) hX) (by decide) ?_ | refine z0m hp rfl (bk1 (m := (e0 + 1, X)) hX) (by decide) ?_)))) | (apply z0b; (first | refine z10 ?_ | apply z0d)) | (apply z0c; (apply z01)))
 all_goals try (exfalso; omega)
 all_goals exact zdv Tryz.func19 _ (z4l rfl) ⟨rfl, rfl⟩
theorem nxd {i : Nat} {c : Int} (h : nx (us.drop i) = c) (h0 : 0 ≤ c) : i < us.length ∧ (us.drop i).tail = us.drop (i + 1) ∧ us.drop i = (us.drop i).head?.getD ⟨0, 0⟩ :: us.drop (i + 1) := by
 have hlt : i < us.length := by
  false_or_by_contra
  rw [List.drop_eq_nil_of_le (by omega)] at h; simp [nx] at h; omega
 refine ⟨hlt, by rw [List.tail_drop], ?_⟩
 rw [List.drop_eq_getElem_cons hlt]; rfl
theorem nxr (i : Nat) : -1 ≤ nx (us.drop i) ∧ nx (us.drop i) ≤ 1114111 := by
 by_cases hlt : i < us.length
 · rw [List.drop_eq_getElem_cons hlt]
   have := hu.rng us[i] (List.getElem_mem hlt)
   simp only [nx]; omega
 · rw [List.drop_eq_nil_of_le (by omega)]; simp [nx]
theorem zev (i : Nat) (hi : i ≤ us.length) (c : Int) (h0 : 0 ≤ c) (e0 : Nat) : z2j Tryz.prog 73 [.ptr (e0, X) 0, I .i32 c] [((e0, X), rbx s qs i 0 0 false)] [((e0, X), bkS s us qs (z4c c (us.drop i)))] (.tup []) := by
 refine z2k fun H hH => ?_
 have hX : H e0 X = some (rbx s qs i 0 0 false) := hH ((e0, X), rbx s qs i 0 0 false) (by simp)
 have hn := z81 (X := X) hu i hi 0 0 (e0 + 1)
 have hy := zj6 (X := X) hu i hi (e0 + 1)
 have hfw := hu.few
 refine z1c Tryz.func73 (by kernel_rfl) rfl (by simp) ?_
 dsimp only [Tryz.f73]
 by_cases hc : nx (us.drop i) = c
 · obtain ⟨hlt, ht, _⟩ := nxd hu hc h0
   rw [z4c, if_pos hc, ht, z3j (by omega)]
   repeat' (first | (apply z0e; (first | refine z11 rfl (by decide) ?_ | (apply z0a; (refine z0q rfl hX rfl rfl rfl rfl (by decide) ?_)) | (apply z07; (refine z00 (z04 rfl rfl) rfl rfl (by decide) ?_)) | (apply z13; (refine z00 (z19 (z1o (by omega) (by omega))) rfl rfl (by decide) ?_)) | (apply z0o; (first | refine z0v hy rfl hX z1k (by decide) ?_ | refine z0m hn rfl (bk1 (m := (e0 + 1, X)) hX) (by decide) ?_)) | (apply z05; (refine z0w (raw' := rbx s qs ((i + 1 : Nat) : Int) 0 0 false) rfl hX rfl rfl rfl rfl rfl rfl ?_)))) | (apply z0b; (first | refine z10 ?_ | apply z0d)) | (apply z0c; (first | apply z0f | apply z01 | apply z09 | refine z2i rfl (fun _ => ?_) (fun _ => ?_))))
   all_goals try (exfalso; omega)
   all_goals exact zdv Tryz.func73 _ (z4l rfl) ⟨rfl, rfl⟩
 · rw [z4c, if_neg hc, z5r hi]
   repeat' (first | (apply z0e; (first | refine z11 rfl (by decide) ?_ | (apply z0a; (refine z0q rfl hX rfl rfl rfl rfl (by decide) ?_)) | (apply z07; (refine z00 (z04 rfl rfl) rfl rfl (by decide) ?_)) | (apply z13; (refine z00 (z19 (z1o (by omega) (by omega))) rfl rfl (by decide) ?_)) | (apply z0o; (first | refine z0v hy rfl hX z1k (by decide) ?_ | refine z0m hn rfl (bk1 (m := (e0 + 1, X)) hX) (by decide) ?_)) | (apply z05; (refine z0w (raw' := rbx s qs ((i + 1 : Nat) : Int) 0 0 false) rfl hX rfl rfl rfl rfl rfl rfl ?_)))) | (apply z0b; (first | refine z10 ?_ | apply z0d)) | (apply z0c; (first | apply z0f | apply z01 | apply z09 | refine z2i rfl (fun _ => ?_) (fun _ => ?_))))
   all_goals try (exfalso; omega)
   all_goals exact z0g Tryz.func73 _ (z4l rfl) ⟨rfl, rfl⟩
theorem zea (i : Nat) (hi : i ≤ us.length) (c a e : Int) (h0 : 0 ≤ c) (e0 : Nat) : z2j Tryz.prog 73 [.ptr (e0, X) 0, I .i32 c] [((e0, X), rbx s qs i a e true)] [] (.tup []) := by
 refine z2k fun H hH => ?_
 have hX : H e0 X = some (rbx s qs i a e true) := hH ((e0, X), rbx s qs i a e true) (by simp)
 have hn := zj2 (X := X) hu i a e (e0 + 1)
 have hy := zux (X := X) hu i hi a e (e0 + 1)
 refine z1c Tryz.func73 (by kernel_rfl) rfl (by simp) ?_
 dsimp only [Tryz.f73]
 repeat' (first | (apply z0e; (first | refine z11 rfl (by decide) ?_ | (apply z0a; (refine z0q rfl hX rfl rfl rfl rfl (by decide) ?_)) | (apply z07; (refine z00 (z04 rfl rfl) rfl rfl (by decide) ?_)) | (apply z13; (refine z00 (z19 (z1o (by omega) (by omega))) rfl rfl (by decide) ?_)) | (apply z0o; (first | refine z0m hy rfl (bk1 (m := (e0 + 1, X)) hX) (by decide) ?_ | refine z0m hn rfl (bk1 (m := (e0 + 1, X)) hX) (by decide) ?_)))) | (apply z0b; (first | refine z10 ?_ | apply z0d)) | (apply z0c; (first | apply z0f | apply z01 | apply z09 | refine z2i rfl (fun _ => ?_) (fun _ => ?_))))
 all_goals try (exfalso; omega)
 all_goals exact z0g Tryz.func73 _ (z4l rfl) ⟨rfl, rfl⟩
theorem ziq (i : Nat) (hi : i ≤ us.length) (e0 : Nat) : z2j Tryz.prog 89 [.ptr (e0, X) 0] [((e0, X), rbx s qs i 0 0 false)] [((e0, X), if dgt (nx (us.drop i)) = true then rbx s qs ((i + 1 : Nat) : Int) 0 0 false else rbx s qs (i : Nat) 0 0 false)] (I .i64 (if dgt (nx (us.drop i)) = true then nx (us.drop i) - 48 else -1)) := by
 refine z2k fun H hH => ?_
 have hX : H e0 X = some (rbx s qs i 0 0 false) := hH ((e0, X), rbx s qs i 0 0 false) (by simp)
 have hn := z81 (X := X) hu i hi 0 0 (e0 + 1)
 have hr := nxr hu i
 have hfw := hu.few
 refine z1c Tryz.func89 (by kernel_rfl) rfl (by simp) ?_
 dsimp only [Tryz.f89]
 by_cases hc : 48 ≤ nx (us.drop i) ∧ nx (us.drop i) ≤ 57
 · have hd : dgt (nx (us.drop i)) = true := by simp [dgt]; omega
   rw [if_pos hd, if_pos hd]
   obtain ⟨hlt, _, _⟩ := nxd hu (rfl : nx (us.drop i) = _) (by omega)
   repeat' (first | (apply z0e; (first | refine z11 rfl (by decide) ?_ | (apply z0a; (refine z0q rfl hX rfl rfl rfl rfl (by decide) ?_)) | (apply z07; (refine z00 (z04 rfl rfl) rfl rfl (by decide) ?_)) | (apply z13; (first | refine z00 (z42 (za2 (by omega) (by omega))) rfl rfl (by decide) ?_ | refine z00 (z19 (z1o (by omega) (by omega))) rfl rfl (by decide) ?_)) | (apply z0o; (refine z0m hn rfl (bk1 (m := (e0 + 1, X)) hX) (by decide) ?_)) | (apply z05; (refine z0w (raw' := rbx s qs ((i + 1 : Nat) : Int) 0 0 false) rfl hX rfl rfl rfl rfl rfl rfl ?_)) | (apply z63; (refine z00 (z9j rfl rfl (z1o (by omega) (by omega))) rfl rfl (by decide) ?_)))) | (apply z0b; (first | refine z10 ?_ | apply z0d | refine z2f rfl rfl (by decide) ?_ | refine z16 rfl rfl (fun _ => ?_) (fun _ => ?_))) | (apply z0c; (first | apply z0f | apply z01 | refine z0r rfl ?_ | apply z09 | refine z1i rfl (fun _ => ?_) (fun _ => ?_))))
   all_goals try (exfalso; omega)
   all_goals exact z0g Tryz.func89 _ (z0j rfl rfl) ⟨rfl, rfl⟩
 · have hd : ¬ dgt (nx (us.drop i)) = true := by simp [dgt]; omega
   rw [if_neg hd, if_neg hd]
   repeat' (first | (apply z0e; (first | refine z11 rfl (by decide) ?_ | (apply z0a; (refine z0q rfl hX rfl rfl rfl rfl (by decide) ?_)) | (apply z07; (refine z00 (z04 rfl rfl) rfl rfl (by decide) ?_)) | (apply z13; (refine z00 (z19 (z1o (by omega) (by omega))) rfl rfl (by decide) ?_)) | (apply z0o; (refine z0m hn rfl (bk1 (m := (e0 + 1, X)) hX) (by decide) ?_)))) | (apply z0b; (first | refine z10 ?_ | apply z0d | refine z2f rfl rfl (by decide) ?_ | refine z16 rfl rfl (fun _ => ?_) (fun _ => ?_))) | (apply z0c; (first | apply z0f | apply z01 | refine z0r rfl ?_ | apply z09 | refine z1i rfl (fun _ => ?_) (fun _ => ?_))))
   all_goals try (exfalso; omega)
   all_goals (refine zf4 (m := (e0, X)) hX ?_; exact z0g Tryz.func89 _ (z0j rfl rfl) ⟨rfl, rfl⟩)
end
end Go.Proofs.YtjmbjgecfpggdaaGreatDoor
