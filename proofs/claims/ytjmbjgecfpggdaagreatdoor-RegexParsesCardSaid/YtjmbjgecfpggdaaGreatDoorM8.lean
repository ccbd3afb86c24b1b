/- A part of the proof: Z8. -/
import Derived.Test.YtjmbjgecfpggdaaGreatDoorM7
import Derived.Test.YtjmbjgecfpggdaaGreatDoorRu
set_option linter.all false
set_option linter.unusedVariables false
set_option linter.unusedSimpArgs false
namespace Go.Proofs.YtjmbjgecfpggdaaGreatDoor
open Go.Ab Go.Rx
set_option maxHeartbeats 20000000
set_option maxRecDepth 100000
attribute [local irreducible] Run Ops Op1 z2q Val Tr z1p z2j NF Rel z5b z5c z84
theorem z7n {us : List U} {i : Nat} {r : List U} (hi : i ≤ us.length) (h : r <:+ us.drop i) : ∃ j, i ≤ j ∧ j ≤ us.length ∧ r = us.drop j := by
 obtain ⟨t, ht⟩ := h
 have hl : t.length + r.length = us.length - i := by rw [← List.length_append, ht, List.length_drop]
 refine ⟨i + t.length, by omega, by omega, ?_⟩
 rw [← List.drop_drop, ← ht, List.drop_left]
section
variable {us : List U} {i : Nat} (hi : i ≤ us.length)
include hi
theorem zu2 {n : Nat} {e : Rx} {r : List U} (h : rU n [] (us.drop i) = .res e (.ok r)) : ∃ j, i ≤ j ∧ j ≤ us.length ∧ r = us.drop j := by
 have h1 := (zj5 n).1 [] (us.drop i) (by simp)
 have h2 := (z9i n).1 [] (us.drop i)
 rw [h, List.flatMap_nil] at h1
 rw [show pU n [] (us.drop i) = .ok e r from h1] at h2
 exact z7n hi h2
theorem zsf {n : Nat} {e : Rx} {r : List U} (h : rC n [] (us.drop i) = .res e (.ok r)) : ∃ j, i ≤ j ∧ j ≤ us.length ∧ r = us.drop j := by
 have h1 := (zj5 n).2.1 [] (us.drop i) (by simp)
 have h2 := (z9i n).2.1 [] (us.drop i)
 rw [h, List.flatMap_nil] at h1
 rw [show pC n [] (us.drop i) = .ok e r from h1] at h2
 exact z7n hi h2
theorem zun {n : Nat} {e : Rx} {r : List U} (h : rR n (us.drop i) = .res e (.ok r)) : ∃ j, i ≤ j ∧ j ≤ us.length ∧ r = us.drop j := by
 have h1 := (zj5 n).2.2.1 (us.drop i)
 have h2 := ((z9i n).2.2.1 (us.drop i)).1
 rw [h] at h1
 rw [show pR n (us.drop i) = .ok e r from h1] at h2
 exact z7n hi h2
theorem zva {n : Nat} {e : Rx} {r : List U} (h : rA n (us.drop i) = .res e (.ok r)) : ∃ j, i ≤ j ∧ j ≤ us.length ∧ r = us.drop j := by
 have h1 := (zj5 n).2.2.2.2 (us.drop i)
 have h2 := ((z9i n).2.2.2.2 (us.drop i)).1
 rw [h] at h1
 rw [show pA n (us.drop i) = .ok e r from h1] at h2
 exact z7n hi h2
end
section
variable (s : ByteArray) (us : List U) (qs : List Uq) (X : Nat)
def KU (N : Nat) : Prop := ∀ (i : Nat), i ≤ us.length → ∀ e0 : Nat, rU N [] (us.drop i) ≠ .out →
 z2j Tryz.prog 18 [.ptr (e0, X) 0] [((e0, X), rbx s qs i 0 0 false)] [((e0, X), bkR s us qs (rU N [] (us.drop i)))] (rsR (rU N [] (us.drop i)))
def KC (N : Nat) : Prop := ∀ (i : Nat), i ≤ us.length → ∀ e0 : Nat, rC N [] (us.drop i) ≠ .out →
 z2j Tryz.prog 34 [.ptr (e0, X) 0] [((e0, X), rbx s qs i 0 0 false)] [((e0, X), bkR s us qs (rC N [] (us.drop i)))] (rsR (rC N [] (us.drop i)))
def KR (N : Nat) : Prop := ∀ (i : Nat), i ≤ us.length → ∀ e0 : Nat, rR N (us.drop i) ≠ .out →
 z2j Tryz.prog 53 [.ptr (e0, X) 0] [((e0, X), rbx s qs i 0 0 false)] [((e0, X), bkR s us qs (rR N (us.drop i)))] (rsR (rR N (us.drop i)))
def KA (N : Nat) : Prop := ∀ (i : Nat), i ≤ us.length → ∀ e0 : Nat, rA (N + 1) (us.drop i) ≠ .out →
 z2j Tryz.prog 71 [.ptr (e0, X) 0] [((e0, X), rbx s qs i 0 0 false)] [((e0, X), bkR s us qs (rA (N + 1) (us.drop i)))] (rsR (rA (N + 1) (us.drop i)))
end
section
variable {s : ByteArray} {us : List U} {qs : List Uq} {X : Nat} (hu : Un5 s us qs)
include hu
theorem zqp (N : Nat) (hN : N ≤ 1000000) (hU : KU s us qs X N) : KA s us qs X N := by
 intro i hi e0 hne
 refine z2k fun H hH => ?_
 have hX : H e0 X = some (rbx s qs i 0 0 false) := hH ((e0, X), rbx s qs i 0 0 false) (by simp)
 have hfw := hu.few
 have hn := z81 (X := X) hu i hi 0 0 (e0 + 1)
 refine z1c Tryz.func71 (by kernel_rfl) rfl (by simp) ?_
 dsimp only [Tryz.f71]
 rw [rA] at hne ⊢
 by_cases h40 : nx (us.drop i) = 40
 · obtain ⟨hlt, ht, _⟩ := nxd hu h40 (by decide)
   rw [if_pos h40, ht] at hne ⊢
   have hk := hU (i + 1) hlt (e0 + 1) (fun h => hne (by rw [h]))
   rw [h40] at hn
   cases hp : rU N [] (us.drop (i + 1)) with
   | out => rw [hp] at hne; exact absurd rfl hne
   | res e t =>
    rw [hp] at hk
    cases t with
    | er y a c =>
     have hw := zea (X := X) hu (us.length - y.length) (by omega) 41 ((s.size - bts a : Nat) : Int) c (by decide) (e0 + 1)
     simp only [bkR, rsR, bkS] at hk ⊢
     obtain ⟨op, mn, mx, rs, ks⟩ := e
     rw [z2r] at hk ⊢
     repeat' (first | (apply z0e; (first | refine z11 rfl (by decide) ?_ | (apply z0a; (first | refine z0q rfl hX rfl rfl rfl rfl (by decide) ?_ | refine z00 (z15 rfl rfl rfl rfl) rfl rfl (by decide) ?_)) | (apply z07; (refine z00 (z04 rfl rfl) rfl rfl (by decide) ?_)) | (apply z13; (refine z00 (z19 (z1o (by omega) (by omega))) rfl rfl (by decide) ?_)) | (apply z0o; (first | refine z0m hw rfl (bk1 (m := (e0 + 1, X)) (z02 _ (e0, X) _)) (by decide) ?_ | refine z0v hk rfl (z02 _ (e0, X) _) z1k (by decide) ?_ | refine z0m hn rfl (bk1 (m := (e0 + 1, X)) hX) (by decide) ?_)) | (apply z05; (first | refine z0w (raw' := rbx s qs ((i + 1 : Nat) : Int) 0 0 false) rfl hX rfl rfl rfl rfl rfl rfl ?_ | refine z06 rfl rfl rfl rfl rfl rfl ?_)) | (apply z0n; (refine z0k (z0l rfl rfl (by decide)) ?_)))) | (apply z0b; (first | refine z10 ?_ | apply z0d)) | (apply z0c; (first | apply z0f | apply z01 | refine z0r rfl ?_ | apply z03)))
     all_goals try (exfalso; omega)
     all_goals ((repeat rw [z0i]); exact z0g Tryz.func71 _ (z1n rfl rfl rfl rfl rfl rfl) ⟨rfl, rfl⟩)
    | ok r =>
     obtain ⟨j, hj1, hj, rfl⟩ := zu2 hlt hp
     have hw := zev (X := X) hu j hj 41 (by decide) (e0 + 1)
     simp only [bkR, rsR] at hk ⊢
     rw [z3j hj] at hk
     generalize bkS s us qs (z4c 41 (us.drop j)) = BB at *
     obtain ⟨op, mn, mx, rs, ks⟩ := e
     rw [z2r] at hk ⊢
     repeat' (first | (apply z0e; (first | refine z11 rfl (by decide) ?_ | (apply z0a; (first | refine z0q rfl hX rfl rfl rfl rfl (by decide) ?_ | refine z00 (z15 rfl rfl rfl rfl) rfl rfl (by decide) ?_)) | (apply z07; (refine z00 (z04 rfl rfl) rfl rfl (by decide) ?_)) | (apply z13; (refine z00 (z19 (z1o (by omega) (by omega))) rfl rfl (by decide) ?_)) | (apply z0o; (first | refine z0v hw rfl (z02 _ (e0, X) _) z1k (by decide) ?_ | refine z0v hk rfl (z02 _ (e0, X) _) z1k (by decide) ?_ | refine z0m hn rfl (bk1 (m := (e0 + 1, X)) hX) (by decide) ?_)) | (apply z05; (first | refine z0w (raw' := rbx s qs ((i + 1 : Nat) : Int) 0 0 false) rfl hX rfl rfl rfl rfl rfl rfl ?_ | refine z06 rfl rfl rfl rfl rfl rfl ?_)) | (apply z0n; (refine z0k (z0l rfl rfl (by decide)) ?_)))) | (apply z0b; (first | refine z10 ?_ | apply z0d)) | (apply z0c; (first | apply z0f | apply z01 | refine z0r rfl ?_ | apply z03)))
     all_goals try (exfalso; omega)
     all_goals ((repeat rw [z0i]); exact z0g Tryz.func71 _ (z1n rfl rfl rfl rfl rfl rfl) ⟨rfl, rfl⟩)
 rw [if_neg h40] at hne ⊢
 by_cases h46 : nx (us.drop i) = 46
 · obtain ⟨hlt, ht, _⟩ := nxd hu h46 (by decide)
   rw [if_pos h46, ht, bkR, rsR, z3j hlt, zcu]
   rw [h46] at hn
   repeat' (first | (apply z0e; (first | refine z11 rfl (by decide) ?_ | (apply z0a; (refine z0q rfl hX rfl rfl rfl rfl (by decide) ?_)) | (apply z07; (refine z00 (z04 rfl rfl) rfl rfl (by decide) ?_)) | (apply z13; (refine z00 (z19 (z1o (by omega) (by omega))) rfl rfl (by decide) ?_)) | (apply z0o; (refine z0m hn rfl (bk1 (m := (e0 + 1, X)) hX) (by decide) ?_)) | (apply z05; (first | refine z0w (raw' := rbx s qs ((i + 1 : Nat) : Int) 0 0 false) rfl hX rfl rfl rfl rfl rfl rfl ?_ | refine z06 rfl rfl rfl rfl rfl rfl ?_)) | (apply z0n; (refine z0k (z0l rfl rfl (by decide)) ?_)) | (apply z0y; (refine z0x rfl rfl rfl rfl rfl rfl rfl (by decide) ?_)) | (apply z27; (refine z29 rfl rfl rfl rfl rfl rfl rfl rfl (by decide) ?_)))) | (apply z0b; (first | refine z10 ?_ | apply z0d)) | (apply z0c; (first | apply z0f | apply z01 | refine z0r rfl ?_ | refine z0h rfl ?_ | apply z03)))
   all_goals try (exfalso; omega)
   all_goals ((repeat rw [z0i]); exact z0g Tryz.func71 _ (z1n rfl rfl rfl rfl rfl rfl) ⟨rfl, rfl⟩)
 rw [if_neg h46] at hne ⊢
 by_cases h91 : nx (us.drop i) = 91
 · obtain ⟨hlt, ht, _⟩ := nxd hu h91 (by decide)
   rw [if_pos h91] at hne ⊢
   have hc := zng (X := X) hu N hN i hlt h91 hne (e0 + 1)
   rw [h91] at hn
   cases hp : zl0 N (us.drop i) with
   | out => exact absurd hp hne
   | res e t =>
    rw [hp] at hc
    simp only [bkR, rsR] at hc ⊢
    generalize bkS s us qs t = BB at *
    obtain ⟨op, mn, mx, rs, ks⟩ := e
    rw [z2r] at hc ⊢
    repeat' (first | (apply z0e; (first | refine z11 rfl (by decide) ?_ | (apply z0o; (first | refine z0v hc rfl hX z1k (by decide) ?_ | refine z0m hn rfl (bk1 (m := (e0 + 1, X)) hX) (by decide) ?_)) | (apply z05; (refine z06 rfl rfl rfl rfl rfl rfl ?_)) | (apply z0n; (refine z0k (z0l rfl rfl (by decide)) ?_)))) | (apply z0b; (first | refine z10 ?_ | apply z0d)) | (apply z0c; (first | apply z0f | apply z01 | refine z0r rfl ?_ | refine z0h rfl ?_ | apply z03)))
    all_goals try (exfalso; omega)
    all_goals ((repeat rw [z0i]); exact z0g Tryz.func71 _ (z1n rfl rfl rfl rfl rfl rfl) ⟨rfl, rfl⟩)
 · rw [if_neg h91]
   have hc := z8o (X := X) hu zuo i hi (e0 + 1)
   rw [bkR, rsR, zcu]
   generalize bkS s us qs (z7u spA (us.drop i)).2 = BB at *
   generalize (z7u spA (us.drop i)).1 = c at *
   repeat' (first | (apply z0e; (first | refine z11 rfl (by decide) ?_ | (apply z0a; (refine z0q rfl hX rfl rfl rfl rfl (by decide) ?_)) | (apply z07; (refine z00 (z04 rfl rfl) rfl rfl (by decide) ?_)) | (apply z13; (refine z00 (z19 (z1o (by omega) (by omega))) rfl rfl (by decide) ?_)) | (apply z0o; (first | refine z0v hc rfl hX z1k (by decide) ?_ | refine z0m hn rfl (bk1 (m := (e0 + 1, X)) hX) (by decide) ?_)) | (apply z05; (refine z06 rfl rfl rfl rfl rfl rfl ?_)) | (apply z0n; (refine z0k (z0l rfl rfl (by decide)) ?_)) | (apply z0y; (refine z0x rfl rfl rfl rfl rfl rfl rfl (by decide) ?_)) | (apply z27; (refine z29 rfl rfl rfl rfl rfl rfl rfl rfl (by decide) ?_)))) | (apply z0b; (first | refine z10 ?_ | apply z0d)) | (apply z0c; (first | apply z0f | apply z01 | apply z09 | apply z03 | apply z08 | refine z1i rfl (fun _ => ?_) (fun _ => ?_))))
   all_goals try (exfalso; omega)
   all_goals ((repeat rw [z0i]); exact z0g Tryz.func71 _ (z1n rfl rfl rfl rfl rfl rfl) ⟨rfl, rfl⟩)
end
end Go.Proofs.YtjmbjgecfpggdaaGreatDoor
