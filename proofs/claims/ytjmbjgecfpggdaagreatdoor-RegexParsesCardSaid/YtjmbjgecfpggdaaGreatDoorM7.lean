/- A part of the proof: Z7. -/
import Derived.Test.YtjmbjgecfpggdaaGreatDoorM6
import Derived.Test.YtjmbjgecfpggdaaGreatDoorM5
import Derived.Test.YtjmbjgecfpggdaaGreatDoorRu
set_option linter.all false
set_option linter.unusedVariables false
set_option linter.unusedSimpArgs false
namespace Go.Proofs.YtjmbjgecfpggdaaGreatDoor
open Go.Ab Go.Rx
set_option maxHeartbeats 20000000
set_option maxRecDepth 100000
attribute [local irreducible] Run Ops Op1 z2q Val Tr z1p z2j NF Rel z5b z5c z84
def bkR (s : ByteArray) (us : List U) (qs : List Uq) : Rs → Blk
 | .out => .gone
 | .res _ t => bkS s us qs t
def rsR : Rs → PV
 | .out => .any
 | .res e _ => .d (eX e)
section
variable {s : ByteArray} {us : List U} {qs : List Uq} {X : Nat} (hu : Un5 s us qs)
include hu
/-- what a character is, read from a place on -/
theorem znb {sp : List Int} (hsp : Sp sp) (i : Nat) (hi : i ≤ us.length) : (∃ j c, i < j ∧ j ≤ us.length ∧ 0 ≤ c ∧ c ≤ 1114111 ∧ z7u sp (us.drop i) = (c, .ok (us.drop j))) ∨ ∃ j, i ≤ j ∧ j ≤ us.length ∧ z7u sp (us.drop i) = (0, .er (us.drop j) (us.drop j) 3) := by
 by_cases h92 : nx (us.drop i) = 92
 · obtain ⟨hlt, _, _⟩ := nxd hu h92 (by decide)
   have hr1 := nxr hu (i + 1)
   rw [zp7 hsp h92 hlt]
   by_cases h2 : sp.contains (nx (us.drop (i + 1))) = true
   · have hlt1 : i + 1 < us.length := by
      false_or_by_contra
      rw [List.drop_eq_nil_of_le (by omega), zr9 hsp (by decide)] at h2; cases h2
     have h3 := hsp.rng _ (by simpa using h2)
     rw [if_pos h2]
     exact .inl ⟨i + 2, _, by omega, by omega, h3.1, by omega, rfl⟩
   · rw [if_neg h2]
     exact .inr ⟨i + 1, by omega, hlt, rfl⟩
 · rw [zsm h92 fun u h => (hu.rng u h).1]
   have hr := nxr hu i
   split
   · exact .inr ⟨i, Nat.le_refl _, hi, rfl⟩
   · rename_i h
     obtain ⟨hlt, _, _⟩ := nxd hu (rfl : nx (us.drop i) = _) (by omega)
     exact .inl ⟨i + 1, _, by omega, by omega, by omega, hr.2, rfl⟩
def lbk (s : ByteArray) (us : List U) (qs : List Uq) (j : Nat) : Option (Nat × Int) → Blk
 | none => rbx s qs (j : Nat) 0 0 false
 | some (k, c) => rbx s qs (j : Nat) (pl s us k) c true
def lJ (us : List U) (N : Nat) (T : Option (List Rg × Sr)) (m : Nat) (acc : List Rg) (j : Nat) : Option (Nat × Int) → Prop
 | none => j ≤ us.length ∧ acc.length + m ≤ N ∧ zcq m acc (us.drop j) = T ∧ vR acc
 | some (k, c) => j ≤ us.length ∧ acc.length + m ≤ N ∧ T = some (acc, .er (us.drop j) (us.drop k) c) ∧ acc ≠ []
theorem zng (N : Nat) (hN : N ≤ 1000000) (i : Nat) (hi : i < us.length) (h91 : nx (us.drop i) = 91) (hne : zl0 N (us.drop i) ≠ .out) (e0 : Nat) :
  z2j Tryz.prog 87 [.ptr (e0, X) 0] [((e0, X), rbx s qs i 0 0 false)] [((e0, X), bkR s us qs (zl0 N (us.drop i)))] (rsR (zl0 N (us.drop i))) := by
 refine z2k fun H hH => ?_
 have hX : H e0 X = some (rbx s qs i 0 0 false) := hH ((e0, X), rbx s qs i 0 0 false) (by simp)
 have hfw := hu.few
 have hp := z9w (X := X) hu i (by omega) i 0 0 false (e0 + 1)
 have hn := z81 (X := X) hu (i + 1) (by omega) 0 0 (e0 + 1)
 have ht1 : (us.drop i).tail = us.drop (i + 1) := List.tail_drop
 have ht2 : (us.drop (i + 1)).tail = us.drop (i + 2) := List.tail_drop
 rw [zl0, ht1, ht2] at hne ⊢
 refine z1c Tryz.func87 (by kernel_rfl) rfl (by simp) ?_
 dsimp only [Tryz.f87]
 obtain ⟨nb, hnb⟩ : ∃ nb, decide (nx (us.drop (i + 1)) = 94) = nb := ⟨_, rfl⟩
 obtain ⟨j0, hj0, hj0e⟩ : ∃ j0, j0 ≤ us.length ∧ j0 = if nx (us.drop (i + 1)) = 94 then i + 2 else i + 1 := by
  refine ⟨_, ?_, rfl⟩
  split
  · rename_i h; have := (nxd hu h (by decide)).1; omega
  · omega
 have hT0 : (if nx (us.drop (i + 1)) = 94 then us.drop (i + 2) else us.drop (i + 1)) = us.drop j0 := by
  rw [hj0e]; split <;> rfl
 rw [hT0, hnb] at hne ⊢
 obtain ⟨T, hT⟩ : ∃ T, zcq N [] (us.drop j0) = T := ⟨_, rfl⟩
 rw [hT] at hne ⊢
 repeat' (first | (apply z0e; (first | refine z11 rfl (by decide) ?_ | (apply z0a; (refine z0q rfl hX rfl rfl rfl rfl (by decide) ?_)) | (apply z07; (refine z00 (z04 rfl rfl) rfl rfl (by decide) ?_)) | (apply z13; (refine z00 (z19 (z1o (by omega) (by omega))) rfl rfl (by decide) ?_)) | (apply z0o; (first | refine z0m hn rfl (bk1 (m := (e0 + 1, X)) (z02 _ (e0, X) _)) (by decide) ?_ | refine z0m hp rfl (bk1 (m := (e0 + 1, X)) hX) (by decide) ?_)) | (apply z05; (refine z0w (raw' := rbx s qs ((i + 1 : Nat) : Int) 0 0 false) rfl hX rfl rfl rfl rfl rfl rfl ?_)) | (apply z0n; (refine z0k (z0l rfl rfl (by decide)) ?_)))) | (apply z0b; (first | refine z10 ?_ | apply z0d)) | (apply z0c; (first | (refine z9h (A := .seq (.region 4 _ _) _) ?_) | apply z0f | apply z01)))
 all_goals try (exfalso; omega)
 rw [hnb]
 refine z7d (zt4 (st0 := ⟨103, [(0, .ptr (e0 + 1, X) 0), (2, .ptr (0, 2) 0), (3, I .i64 (pl s us i)), (4, B nb)], [(2, .box (z3y [Value.int .i64 0, Value.int .i64 0, Value.int .i64 0, z2o, z2o]))], upd H (e0, X) (rbx s qs (j0 : Nat) 0 0 false)⟩) ?_ (fun hj => ?_))
 · repeat' (first | (apply z0e; (refine z11 rfl (by decide) ?_)) | (apply z0b; (first | refine z10 ?_ | apply z0d)) | (apply z0c; (first | apply z0f | apply z01 | apply z03)))
   all_goals try (exfalso; omega)
   refine z3e 5 1000 52 2 rfl rfl rfl ?_
   refine z1x ?_
   refine z0s (z2u (fun q : Nat × List Rg × Nat × Option (Nat × Int) => ⟨103, [(0, .ptr (e0 + 1, X) 0), (2, .ptr (0, 2) 0), (3, I .i64 (pl s us i)), (4, B nb), (5, .ref (0, 1000)), (6, B q.2.1.isEmpty)], [(1000, .row 52 2 (q.2.1.map rgc)), (2, .box (z3y [Value.int .i64 0, Value.int .i64 0, Value.int .i64 0, z2o, z2o]))], upd H (e0, X) (lbk s us qs q.2.2.1 q.2.2.2)⟩)
    (fun q => lJ us N T q.1 q.2.1 q.2.2.1 q.2.2.2) (fun q => q.1) ?_ (N, [], j0, none) ⟨hj0, by simp, hT, by intro r hr; simp at hr⟩) rfl rfl
   rintro ⟨m, acc, j, err⟩ i0 ih
   simp only at i0 ih ⊢
   cases err with
   | some q =>
    obtain ⟨k, c⟩ := q
    obtain ⟨i1, i2, i3, i4⟩ := i0
    obtain ⟨r0, acc', rfl⟩ : ∃ r0 acc', acc = r0 :: acc' := by
     cases acc with
     | nil => exact absurd rfl i4
     | cons a b => exact ⟨a, b, rfl⟩
    rw [i3]
    simp only [zrx, bkR, rsR, lbk, List.isEmpty_cons]
    rw [z5r i1, z3x]
    have hw := zea (X := X) hu j i1 93 (pl s us k) c (by decide) (e0 + 1)
    repeat' (first | (apply z0e; (first | refine z11 rfl (by decide) ?_ | (apply z0a; (refine z0q rfl (z02 _ (e0, X) _) rfl rfl rfl rfl (by decide) ?_)) | (apply z07; (refine z00 (z04 rfl rfl) rfl rfl (by decide) ?_)) | (apply z0o; (refine z0m hw rfl (bk1 (m := (e0 + 1, X)) (z02 _ (e0, X) _)) (by decide) ?_)) | (apply z05; (refine z06 rfl rfl rfl rfl rfl rfl ?_)) | (apply z0y; (refine z0x rfl rfl rfl rfl rfl rfl rfl (by decide) ?_)))) | (apply z0b; (first | refine z10 ?_ | apply z0d | refine z2f rfl rfl (by decide) ?_ | refine z7i rfl rfl (by decide) ?_)) | (apply z0c; (first | apply z0f | apply z01 | refine z0r rfl ?_ | refine z0h rfl ?_ | refine z0p rfl ?_)))
    all_goals try (exfalso; omega)
    all_goals exact z0g Tryz.func87 _ (z1n rfl rfl rfl rfl rfl rfl) ⟨rfl, rfl⟩
   | none =>
    obtain ⟨i1, i2, i3, i4⟩ := i0
    simp only [lbk]
    cases m with
    | zero => rw [zcq] at i3; exact absurd (by rw [← i3]; rfl) hne
    | succ m =>
    rw [zcq] at i3
    have hnj := z81 (X := X) hu j i1 0 0 (e0 + 1)
    obtain ⟨fb, hfb⟩ : ∃ fb, acc.isEmpty = fb := ⟨_, rfl⟩
    rw [hfb]
    by_cases h93 : acc ≠ [] ∧ nx (us.drop j) = 93
    · obtain ⟨hltj, htj, _⟩ := nxd hu h93.2 (by decide)
      rw [if_pos h93] at i3
      obtain rfl : fb = false := by rw [← hfb]; cases acc with | nil => exact absurd rfl h93.1 | cons _ _ => rfl
      have hw := zev (X := X) hu j i1 93 (by decide) (e0 + 1)
      rw [z4c, if_pos h93.2, htj, z3j hltj] at hw
      rw [← i3]
      rw [h93.2] at hnj
      clear ih i3 hT
      refine z1t 1000 rfl ?_
      have hno := zbt acc (by omega) i4
      have hnl := zes acc
      have hne2 := znl acc (by omega) i4 (by omega) (zed i4)
      cases nb with
      | true =>
       skip
       rw [show zrx true (us.drop i) (some (acc, Sr.ok (us.drop j))) = (if (zfw acc).length = 0 then Rs.res (zaj []) (.er (us.drop (j + 1)) (us.drop i) 1) else .res (zaj (zfw acc)) (.ok (us.drop (j + 1)))) from by rw [← htj]; rfl]
       by_cases h0 : (zfw acc).length = 0
       · have hnil : zfw acc = [] := List.eq_nil_of_length_eq_zero h0
         have hf := ziv (X := X) (s := s) (qs := qs) ((j + 1 : Nat) : Int) (pl s us i) 1 (e0 + 1)
         rw [hnil] at hne2
         rw [if_pos h0, bkR, rsR, z5r hltj, zaj, z2r]
         repeat' (first | (apply z0e; (first | refine z11 rfl (by decide) ?_ | (apply z0a; (first | refine z0q rfl (z02 _ (e0, X) _) rfl rfl rfl rfl (by decide) ?_ | refine z00 (z0u rfl rfl rfl rfl) rfl rfl (by decide) ?_ | refine z00 (z15 rfl rfl rfl rfl) rfl rfl (by decide) ?_)) | (apply z07; (refine z00 (z04 rfl rfl) rfl rfl (by decide) ?_)) | (apply z1e; (refine z00 (z1q rfl) rfl rfl (by decide) ?_)) | (apply z0o; (first | refine z0v hf rfl (z02 _ (e0, X) _) z1k (by decide) ?_ | refine z0v hw rfl (z02 _ (e0, X) _) z1k (by decide) ?_ | refine z0m hnj rfl (bk1 (m := (e0 + 1, X)) (z02 _ (e0, X) _)) (by decide) ?_ | refine z2v hno rfl (by decide) ?_ | refine z2v hne2 rfl (by decide) ?_)) | (apply z05; (refine z06 rfl rfl rfl rfl rfl rfl ?_)) | (apply z0n; (refine z0k (z0l rfl rfl (by decide)) ?_)) | (apply z0y; (refine z0x rfl rfl rfl rfl rfl rfl rfl (by decide) ?_)))) | (apply z0b; (first | refine z10 ?_ | apply z0d)) | (apply z0c; (first | apply z0f | apply z01 | refine z0r rfl ?_ | refine z0h rfl ?_ | apply z09 | refine z0p rfl ?_)))
         all_goals try (exfalso; omega)
         all_goals ((repeat rw [z0i]); exact z0g Tryz.func87 _ (z1n rfl rfl rfl rfl rfl rfl) ⟨rfl, rfl⟩)
       · rw [if_neg h0, bkR, rsR, z3j hltj, zaj, z2r]
         repeat' (first | (apply z0e; (first | refine z11 rfl (by decide) ?_ | (apply z0a; (first | refine z0q rfl (z02 _ (e0, X) _) rfl rfl rfl rfl (by decide) ?_ | refine z00 (z0u rfl rfl rfl rfl) rfl rfl (by decide) ?_ | refine z00 (z15 rfl rfl rfl rfl) rfl rfl (by decide) ?_)) | (apply z07; (refine z00 (z04 rfl rfl) rfl rfl (by decide) ?_)) | (apply z1e; (refine z00 (z1q rfl) rfl rfl (by decide) ?_)) | (apply z0o; (first | refine z0v hw rfl (z02 _ (e0, X) _) z1k (by decide) ?_ | refine z0m hnj rfl (bk1 (m := (e0 + 1, X)) (z02 _ (e0, X) _)) (by decide) ?_ | refine z2v hno rfl (by decide) ?_ | refine z2v hne2 rfl (by decide) ?_)) | (apply z05; (refine z06 rfl rfl rfl rfl rfl rfl ?_)) | (apply z0n; (refine z0k (z0l rfl rfl (by decide)) ?_)) | (apply z0y; (refine z0x rfl rfl rfl rfl rfl rfl rfl (by decide) ?_)))) | (apply z0b; (first | refine z10 ?_ | apply z0d)) | (apply z0c; (first | apply z0f | apply z01 | refine z0r rfl ?_ | refine z0h rfl ?_ | apply z09 | refine z1i rfl (fun _ => ?_) (fun _ => ?_) | refine z0p rfl ?_)))
         all_goals try (exfalso; (try simp only [List.length_map] at *); omega)
         all_goals ((repeat rw [z0i]); exact z0g Tryz.func87 _ (z1n rfl rfl rfl rfl rfl rfl) ⟨rfl, rfl⟩)
      | false =>
       skip
       rw [show zrx false (us.drop i) (some (acc, Sr.ok (us.drop j))) = .res (zaj (norm acc)) (.ok (us.drop (j + 1))) from by rw [← htj]; rfl, bkR, rsR, z3j hltj, zaj, z2r]
       repeat' (first | (apply z0e; (first | refine z11 rfl (by decide) ?_ | (apply z0a; (first | refine z0q rfl (z02 _ (e0, X) _) rfl rfl rfl rfl (by decide) ?_ | refine z00 (z15 rfl rfl rfl rfl) rfl rfl (by decide) ?_)) | (apply z07; (refine z00 (z04 rfl rfl) rfl rfl (by decide) ?_)) | (apply z0o; (first | refine z0v hw rfl (z02 _ (e0, X) _) z1k (by decide) ?_ | refine z0m hnj rfl (bk1 (m := (e0 + 1, X)) (z02 _ (e0, X) _)) (by decide) ?_ | refine z2v hno rfl (by decide) ?_)) | (apply z05; (refine z06 rfl rfl rfl rfl rfl rfl ?_)) | (apply z0n; (refine z0k (z0l rfl rfl (by decide)) ?_)) | (apply z0y; (refine z0x rfl rfl rfl rfl rfl rfl rfl (by decide) ?_)))) | (apply z0b; (first | refine z10 ?_ | apply z0d)) | (apply z0c; (first | apply z0f | apply z01 | refine z0h rfl ?_ | apply z09 | refine z0p rfl ?_)))
       all_goals try (exfalso; omega)
       all_goals ((repeat rw [z0i]); exact z0g Tryz.func87 _ (z1n rfl rfl rfl rfl rfl rfl) ⟨rfl, rfl⟩)
    · rw [if_neg h93] at i3
      cases fb with
      | true =>
       skip
       have hie : ∀ x : Rg, (acc ++ [x]).isEmpty = false := fun x => by simp
       have hp := z9w (X := X) hu j i1 j 0 0 false (e0 + 1)
       rcases znb hu zji j i1 with ⟨j1, av, k1, k2, a0, a1, hq⟩ | ⟨j1, k1, k2, hq⟩
       · have hc := z8o (X := X) hu zji j i1 (e0 + 1)
         rw [hq, z3j k2] at hc
         simp only at hc
         have hn1 := z81 (X := X) hu j1 k2 0 0 (e0 + 1)
         have ht : (us.drop j1).tail = us.drop (j1 + 1) := List.tail_drop
         by_cases h45 : nx (us.drop j1) = 45
         · obtain ⟨hlt1, _, _⟩ := nxd hu h45 (by decide)
           rw [h45] at hn1
           have hc2 := z8o (X := X) hu zji (j1 + 1) hlt1 (e0 + 1)
           rcases znb hu zji (j1 + 1) hlt1 with ⟨j2, bv, k3, k4, b0, b1, hq2⟩ | ⟨j2, k3, k4, hq2⟩
           · rw [hq2, z3j k4] at hc2
             simp only at hc2
             by_cases hba : bv < av
             · have hf := ziv (X := X) (s := s) (qs := qs) (j2 : Nat) (pl s us j) 8 (e0 + 1)
               have hR : zaa (us.drop j) = ((av, bv), .er (us.drop j2) (us.drop j) 8) := by
                rw [zaa, hq]; simp only; rw [if_pos h45, ht, hq2]; simp only; rw [if_pos hba]
               rw [hR] at i3
               have ih' := ih (m, acc ++ [(av, bv)], j2, some (j, 8)) ⟨k4, by simp; omega, i3.symm, by simp⟩ (by simp only; omega)
               rw [hie] at ih'; simp only [lbk] at ih'
               repeat' (first | (apply z0e; (first | refine z11 rfl (by decide) ?_ | (apply z0a; (refine z0q rfl (z02 _ (e0, X) _) rfl rfl rfl rfl (by decide) ?_)) | (apply z07; (refine z00 (z04 rfl rfl) rfl rfl (by decide) ?_)) | (apply z13; (refine z00 (z19 (z1o (by omega) (by omega))) rfl rfl (by decide) ?_)) | (apply z1e; (refine z2d (g := rgc) rfl rfl (av, bv) rfl rfl rfl rfl rfl rfl rfl (by decide) (by omega) ?_)) | (apply z0o; (first | refine z0v hf rfl (z02 _ (e0, X) _) z1k (by decide) ?_ | refine z0v hc2 rfl (z02 _ (e0, X) _) z1k (by decide) ?_ | refine z0m hn1 rfl (bk1 (m := (e0 + 1, X)) (z02 _ (e0, X) _)) (by decide) ?_ | refine z0v hc rfl (z02 _ (e0, X) _) z1k (by decide) ?_ | refine z0m hp rfl (bk1 (m := (e0 + 1, X)) (z02 _ (e0, X) _)) (by decide) ?_)) | (apply z05; (refine z0w (raw' := rbx s qs ((j1 + 1 : Nat) : Int) 0 0 false) rfl (z02 _ (e0, X) _) rfl rfl rfl rfl rfl rfl ?_)) | (apply z0y; (refine z0x rfl rfl rfl rfl rfl rfl rfl (by decide) ?_)) | (apply z27; (refine z29 rfl rfl rfl rfl rfl rfl rfl rfl (by decide) ?_)))) | (apply z0b; (first | refine z10 ?_ | apply z0d | refine z2f rfl rfl (by decide) ?_)) | (apply z0c; (first | apply z0f | apply z01 | refine z0r rfl ?_ | apply z09 | apply z03 | apply z08 | refine z1i rfl (fun _ => ?_) (fun _ => ?_))))
               all_goals try (exfalso; omega)
               all_goals ((repeat rw [z0i]); refine z38 80 1000 rfl rfl ?_; exact z0s ih' rfl rfl)
             · have hR : zaa (us.drop j) = ((av, bv), .ok (us.drop j2)) := by
                rw [zaa, hq]; simp only; rw [if_pos h45, ht, hq2]; simp only; rw [if_neg hba]
               rw [hR] at i3
               have ih' := ih (m, acc ++ [(av, bv)], j2, none) ⟨k4, by simp; omega, i3, fun r hr => (by
                rw [List.mem_append, List.mem_singleton] at hr
                rcases hr with hr | rfl
                · exact i4 r hr
                · exact ⟨a0, by simp only; omega, b1⟩)⟩ (by simp only; omega)
               rw [hie] at ih'; simp only [lbk] at ih'
               repeat' (first | (apply z0e; (first | refine z11 rfl (by decide) ?_ | (apply z0a; (refine z0q rfl (z02 _ (e0, X) _) rfl rfl rfl rfl (by decide) ?_)) | (apply z07; (refine z00 (z04 rfl rfl) rfl rfl (by decide) ?_)) | (apply z13; (refine z00 (z19 (z1o (by omega) (by omega))) rfl rfl (by decide) ?_)) | (apply z1e; (refine z2d (g := rgc) rfl rfl (av, bv) rfl rfl rfl rfl rfl rfl rfl (by decide) (by omega) ?_)) | (apply z0o; (first | refine z0v hc2 rfl (z02 _ (e0, X) _) z1k (by decide) ?_ | refine z0m hn1 rfl (bk1 (m := (e0 + 1, X)) (z02 _ (e0, X) _)) (by decide) ?_ | refine z0v hc rfl (z02 _ (e0, X) _) z1k (by decide) ?_ | refine z0m hp rfl (bk1 (m := (e0 + 1, X)) (z02 _ (e0, X) _)) (by decide) ?_)) | (apply z05; (refine z0w (raw' := rbx s qs ((j1 + 1 : Nat) : Int) 0 0 false) rfl (z02 _ (e0, X) _) rfl rfl rfl rfl rfl rfl ?_)) | (apply z0y; (refine z0x rfl rfl rfl rfl rfl rfl rfl (by decide) ?_)) | (apply z27; (refine z29 rfl rfl rfl rfl rfl rfl rfl rfl (by decide) ?_)))) | (apply z0b; (first | refine z10 ?_ | apply z0d | refine z2f rfl rfl (by decide) ?_)) | (apply z0c; (first | apply z0f | apply z01 | refine z0r rfl ?_ | apply z09 | apply z03 | apply z08 | refine z1i rfl (fun _ => ?_) (fun _ => ?_))))
               all_goals try (exfalso; omega)
               all_goals ((repeat rw [z0i]); refine z38 80 1000 rfl rfl ?_; exact z0s ih' rfl rfl)
           · rw [hq2, z5r k4] at hc2
             simp only at hc2
             have hfv := zq6 (X := X) (s := s) (qs := qs) (j2 : Nat) (pl s us j2) 3 (pl s us j) 8 (e0 + 1)
             have hR : zaa (us.drop j) = ((av, 0), .er (us.drop j2) (us.drop j2) 3) := by
              rw [zaa, hq]; simp only; rw [if_pos h45, ht, hq2]
             rw [hR] at i3
             have ih' := ih (m, acc ++ [(av, 0)], j2, some (j2, 3)) ⟨k4, by simp; omega, i3.symm, by simp⟩ (by simp only; omega)
             rw [hie] at ih'; simp only [lbk] at ih'
             by_cases h0 : (0 : Int) < av
             · skip
               repeat' (first | (apply z0e; (first | refine z11 rfl (by decide) ?_ | (apply z0a; (refine z0q rfl (z02 _ (e0, X) _) rfl rfl rfl rfl (by decide) ?_)) | (apply z07; (refine z00 (z04 rfl rfl) rfl rfl (by decide) ?_)) | (apply z13; (refine z00 (z19 (z1o (by omega) (by omega))) rfl rfl (by decide) ?_)) | (apply z1e; (refine z2d (g := rgc) rfl rfl (av, (0 : Int)) rfl rfl rfl rfl rfl rfl rfl (by decide) (by omega) ?_)) | (apply z0o; (first | refine z0m hfv rfl (bk1 (m := (e0 + 1, X)) (z02 _ (e0, X) _)) (by decide) ?_ | refine z0v hc2 rfl (z02 _ (e0, X) _) z1k (by decide) ?_ | refine z0m hn1 rfl (bk1 (m := (e0 + 1, X)) (z02 _ (e0, X) _)) (by decide) ?_ | refine z0v hc rfl (z02 _ (e0, X) _) z1k (by decide) ?_ | refine z0m hp rfl (bk1 (m := (e0 + 1, X)) (z02 _ (e0, X) _)) (by decide) ?_)) | (apply z05; (refine z0w (raw' := rbx s qs ((j1 + 1 : Nat) : Int) 0 0 false) rfl (z02 _ (e0, X) _) rfl rfl rfl rfl rfl rfl ?_)) | (apply z0y; (refine z0x rfl rfl rfl rfl rfl rfl rfl (by decide) ?_)) | (apply z27; (refine z29 rfl rfl rfl rfl rfl rfl rfl rfl (by decide) ?_)))) | (apply z0b; (first | refine z10 ?_ | apply z0d | refine z2f rfl rfl (by decide) ?_)) | (apply z0c; (first | apply z0f | apply z01 | refine z0r rfl ?_ | apply z09 | apply z03 | apply z08 | refine z1i rfl (fun _ => ?_) (fun _ => ?_))))
               all_goals try (exfalso; omega)
               all_goals ((repeat rw [z0i]); refine z38 80 1000 rfl rfl ?_; exact z0s ih' rfl rfl)
             · skip
               repeat' (first | (apply z0e; (first | refine z11 rfl (by decide) ?_ | (apply z0a; (refine z0q rfl (z02 _ (e0, X) _) rfl rfl rfl rfl (by decide) ?_)) | (apply z07; (refine z00 (z04 rfl rfl) rfl rfl (by decide) ?_)) | (apply z13; (refine z00 (z19 (z1o (by omega) (by omega))) rfl rfl (by decide) ?_)) | (apply z1e; (refine z2d (g := rgc) rfl rfl (av, (0 : Int)) rfl rfl rfl rfl rfl rfl rfl (by decide) (by omega) ?_)) | (apply z0o; (first | refine z0m hfv rfl (bk1 (m := (e0 + 1, X)) (z02 _ (e0, X) _)) (by decide) ?_ | refine z0v hc2 rfl (z02 _ (e0, X) _) z1k (by decide) ?_ | refine z0m hn1 rfl (bk1 (m := (e0 + 1, X)) (z02 _ (e0, X) _)) (by decide) ?_ | refine z0v hc rfl (z02 _ (e0, X) _) z1k (by decide) ?_ | refine z0m hp rfl (bk1 (m := (e0 + 1, X)) (z02 _ (e0, X) _)) (by decide) ?_)) | (apply z05; (refine z0w (raw' := rbx s qs ((j1 + 1 : Nat) : Int) 0 0 false) rfl (z02 _ (e0, X) _) rfl rfl rfl rfl rfl rfl ?_)) | (apply z0y; (refine z0x rfl rfl rfl rfl rfl rfl rfl (by decide) ?_)) | (apply z27; (refine z29 rfl rfl rfl rfl rfl rfl rfl rfl (by decide) ?_)))) | (apply z0b; (first | refine z10 ?_ | apply z0d | refine z2f rfl rfl (by decide) ?_)) | (apply z0c; (first | apply z0f | apply z01 | refine z0r rfl ?_ | apply z09 | apply z03 | apply z08 | refine z1i rfl (fun _ => ?_) (fun _ => ?_))))
               all_goals try (exfalso; omega)
               all_goals ((repeat rw [z0i]); refine z38 80 1000 rfl rfl ?_; exact z0s ih' rfl rfl)
         · have hR : zaa (us.drop j) = ((av, av), .ok (us.drop j1)) := by
            rw [zaa, hq]; simp only; rw [if_neg h45]
           rw [hR] at i3
           have ih' := ih (m, acc ++ [(av, av)], j1, none) ⟨k2, by simp; omega, i3, fun r hr => (by
            rw [List.mem_append, List.mem_singleton] at hr
            rcases hr with hr | rfl
            · exact i4 r hr
            · exact ⟨a0, by simp only; omega, a1⟩)⟩ (by simp only; omega)
           rw [hie] at ih'; simp only [lbk] at ih'
           repeat' (first | (apply z0e; (first | refine z11 rfl (by decide) ?_ | (apply z0a; (refine z0q rfl (z02 _ (e0, X) _) rfl rfl rfl rfl (by decide) ?_)) | (apply z07; (refine z00 (z04 rfl rfl) rfl rfl (by decide) ?_)) | (apply z13; (refine z00 (z19 (z1o (by omega) (by omega))) rfl rfl (by decide) ?_)) | (apply z1e; (refine z2d (g := rgc) rfl rfl (av, av) rfl rfl rfl rfl rfl rfl rfl (by decide) (by omega) ?_)) | (apply z0o; (first | refine z0m hn1 rfl (bk1 (m := (e0 + 1, X)) (z02 _ (e0, X) _)) (by decide) ?_ | refine z0v hc rfl (z02 _ (e0, X) _) z1k (by decide) ?_ | refine z0m hp rfl (bk1 (m := (e0 + 1, X)) (z02 _ (e0, X) _)) (by decide) ?_)) | (apply z05; (refine z0w (raw' := rbx s qs ((j1 + 1 : Nat) : Int) 0 0 false) rfl (z02 _ (e0, X) _) rfl rfl rfl rfl rfl rfl ?_)) | (apply z0y; (refine z0x rfl rfl rfl rfl rfl rfl rfl (by decide) ?_)) | (apply z27; (refine z29 rfl rfl rfl rfl rfl rfl rfl rfl (by decide) ?_)))) | (apply z0b; (first | refine z10 ?_ | apply z0d | refine z2f rfl rfl (by decide) ?_)) | (apply z0c; (first | apply z0f | apply z01 | refine z0r rfl ?_ | apply z09 | apply z03 | apply z08 | refine z1i rfl (fun _ => ?_) (fun _ => ?_))))
           all_goals try (exfalso; omega)
           all_goals ((repeat rw [z0i]); refine z38 80 1000 rfl rfl ?_; exact z0s ih' rfl rfl)
       · have hc := z8o (X := X) hu zji j i1 (e0 + 1)
         rw [hq, z5r k2] at hc
         simp only at hc
         have hnv := zj2 (X := X) hu (j1 : Nat) (pl s us j1) 3 (e0 + 1)
         have hR : zaa (us.drop j) = (((0 : Int), (0 : Int)), .er (us.drop j1) (us.drop j1) 3) := by
          rw [zaa, hq]
         rw [hR] at i3
         have ih' := ih (m, acc ++ [((0 : Int), (0 : Int))], j1, some (j1, 3)) ⟨k2, by simp; omega, i3.symm, by simp⟩ (by simp only; omega)
         rw [hie] at ih'; simp only [lbk] at ih'
         repeat' (first | (apply z0e; (first | refine z11 rfl (by decide) ?_ | (apply z0a; (refine z0q rfl (z02 _ (e0, X) _) rfl rfl rfl rfl (by decide) ?_)) | (apply z07; (refine z00 (z04 rfl rfl) rfl rfl (by decide) ?_)) | (apply z1e; (refine z2d (g := rgc) rfl rfl ((0 : Int), (0 : Int)) rfl rfl rfl rfl rfl rfl rfl (by decide) (by omega) ?_)) | (apply z0o; (first | refine z0m hnv rfl (bk1 (m := (e0 + 1, X)) (z02 _ (e0, X) _)) (by decide) ?_ | refine z0v hc rfl (z02 _ (e0, X) _) z1k (by decide) ?_ | refine z0m hp rfl (bk1 (m := (e0 + 1, X)) (z02 _ (e0, X) _)) (by decide) ?_)) | (apply z0y; (refine z0x rfl rfl rfl rfl rfl rfl rfl (by decide) ?_)) | (apply z27; (refine z29 rfl rfl rfl rfl rfl rfl rfl rfl (by decide) ?_)))) | (apply z0b; (first | refine z10 ?_ | apply z0d | refine z2f rfl rfl (by decide) ?_)) | (apply z0c; (first | apply z0f | apply z01 | refine z0r rfl ?_ | refine z0h rfl ?_ | apply z09 | apply z03 | apply z08)))
         all_goals try (exfalso; omega)
         all_goals ((repeat rw [z0i]); refine z38 80 1000 rfl rfl ?_; exact z0s ih' rfl rfl)
      | false =>
       have h93 : nx (us.drop j) ≠ 93 := fun h => h93 ⟨by (intro h0; rw [h0] at hfb; cases hfb), h⟩
       have hie : ∀ x : Rg, (acc ++ [x]).isEmpty = false := fun x => by simp
       have hp := z9w (X := X) hu j i1 j 0 0 false (e0 + 1)
       rcases znb hu zji j i1 with ⟨j1, av, k1, k2, a0, a1, hq⟩ | ⟨j1, k1, k2, hq⟩
       · have hc := z8o (X := X) hu zji j i1 (e0 + 1)
         rw [hq, z3j k2] at hc
         simp only at hc
         have hn1 := z81 (X := X) hu j1 k2 0 0 (e0 + 1)
         have ht : (us.drop j1).tail = us.drop (j1 + 1) := List.tail_drop
         by_cases h45 : nx (us.drop j1) = 45
         · obtain ⟨hlt1, _, _⟩ := nxd hu h45 (by decide)
           rw [h45] at hn1
           have hc2 := z8o (X := X) hu zji (j1 + 1) hlt1 (e0 + 1)
           rcases znb hu zji (j1 + 1) hlt1 with ⟨j2, bv, k3, k4, b0, b1, hq2⟩ | ⟨j2, k3, k4, hq2⟩
           · rw [hq2, z3j k4] at hc2
             simp only at hc2
             by_cases hba : bv < av
             · have hf := ziv (X := X) (s := s) (qs := qs) (j2 : Nat) (pl s us j) 8 (e0 + 1)
               have hR : zaa (us.drop j) = ((av, bv), .er (us.drop j2) (us.drop j) 8) := by
                rw [zaa, hq]; simp only; rw [if_pos h45, ht, hq2]; simp only; rw [if_pos hba]
               rw [hR] at i3
               have ih' := ih (m, acc ++ [(av, bv)], j2, some (j, 8)) ⟨k4, by simp; omega, i3.symm, by simp⟩ (by simp only; omega)
               rw [hie] at ih'; simp only [lbk] at ih'
               repeat' (first | (apply z0e; (first | refine z11 rfl (by decide) ?_ | (apply z0a; (refine z0q rfl (z02 _ (e0, X) _) rfl rfl rfl rfl (by decide) ?_)) | (apply z07; (refine z00 (z04 rfl rfl) rfl rfl (by decide) ?_)) | (apply z13; (refine z00 (z19 (z1o (by omega) (by omega))) rfl rfl (by decide) ?_)) | (apply z1e; (refine z2d (g := rgc) rfl rfl (av, bv) rfl rfl rfl rfl rfl rfl rfl (by decide) (by omega) ?_)) | (apply z0o; (first | refine z0v hf rfl (z02 _ (e0, X) _) z1k (by decide) ?_ | refine z0v hc2 rfl (z02 _ (e0, X) _) z1k (by decide) ?_ | refine z0m hn1 rfl (bk1 (m := (e0 + 1, X)) (z02 _ (e0, X) _)) (by decide) ?_ | refine z0v hc rfl (z02 _ (e0, X) _) z1k (by decide) ?_ | refine z0m hp rfl (bk1 (m := (e0 + 1, X)) (z02 _ (e0, X) _)) (by decide) ?_ | refine z0m hnj rfl (bk1 (m := (e0 + 1, X)) (z02 _ (e0, X) _)) (by decide) ?_)) | (apply z05; (refine z0w (raw' := rbx s qs ((j1 + 1 : Nat) : Int) 0 0 false) rfl (z02 _ (e0, X) _) rfl rfl rfl rfl rfl rfl ?_)) | (apply z0y; (refine z0x rfl rfl rfl rfl rfl rfl rfl (by decide) ?_)) | (apply z27; (refine z29 rfl rfl rfl rfl rfl rfl rfl rfl (by decide) ?_)))) | (apply z0b; (first | refine z10 ?_ | apply z0d)) | (apply z0c; (first | apply z0f | apply z01 | refine z0r rfl ?_ | apply z09 | apply z03 | apply z08 | refine z1i rfl (fun _ => ?_) (fun _ => ?_) | refine z2i rfl (fun _ => ?_) (fun _ => ?_) | refine z0p rfl ?_)))
               all_goals try (exfalso; omega)
               all_goals ((repeat rw [z0i]); refine z38 80 1000 rfl rfl ?_; exact z0s ih' rfl rfl)
             · have hR : zaa (us.drop j) = ((av, bv), .ok (us.drop j2)) := by
                rw [zaa, hq]; simp only; rw [if_pos h45, ht, hq2]; simp only; rw [if_neg hba]
               rw [hR] at i3
               have ih' := ih (m, acc ++ [(av, bv)], j2, none) ⟨k4, by simp; omega, i3, fun r hr => (by
                rw [List.mem_append, List.mem_singleton] at hr
                rcases hr with hr | rfl
                · exact i4 r hr
                · exact ⟨a0, by simp only; omega, b1⟩)⟩ (by simp only; omega)
               rw [hie] at ih'; simp only [lbk] at ih'
               repeat' (first | (apply z0e; (first | refine z11 rfl (by decide) ?_ | (apply z0a; (refine z0q rfl (z02 _ (e0, X) _) rfl rfl rfl rfl (by decide) ?_)) | (apply z07; (refine z00 (z04 rfl rfl) rfl rfl (by decide) ?_)) | (apply z13; (refine z00 (z19 (z1o (by omega) (by omega))) rfl rfl (by decide) ?_)) | (apply z1e; (refine z2d (g := rgc) rfl rfl (av, bv) rfl rfl rfl rfl rfl rfl rfl (by decide) (by omega) ?_)) | (apply z0o; (first | refine z0v hc2 rfl (z02 _ (e0, X) _) z1k (by decide) ?_ | refine z0m hn1 rfl (bk1 (m := (e0 + 1, X)) (z02 _ (e0, X) _)) (by decide) ?_ | refine z0v hc rfl (z02 _ (e0, X) _) z1k (by decide) ?_ | refine z0m hp rfl (bk1 (m := (e0 + 1, X)) (z02 _ (e0, X) _)) (by decide) ?_ | refine z0m hnj rfl (bk1 (m := (e0 + 1, X)) (z02 _ (e0, X) _)) (by decide) ?_)) | (apply z05; (refine z0w (raw' := rbx s qs ((j1 + 1 : Nat) : Int) 0 0 false) rfl (z02 _ (e0, X) _) rfl rfl rfl rfl rfl rfl ?_)) | (apply z0y; (refine z0x rfl rfl rfl rfl rfl rfl rfl (by decide) ?_)) | (apply z27; (refine z29 rfl rfl rfl rfl rfl rfl rfl rfl (by decide) ?_)))) | (apply z0b; (first | refine z10 ?_ | apply z0d)) | (apply z0c; (first | apply z0f | apply z01 | refine z0r rfl ?_ | apply z09 | apply z03 | apply z08 | refine z1i rfl (fun _ => ?_) (fun _ => ?_) | refine z2i rfl (fun _ => ?_) (fun _ => ?_) | refine z0p rfl ?_)))
               all_goals try (exfalso; omega)
               all_goals ((repeat rw [z0i]); refine z38 80 1000 rfl rfl ?_; exact z0s ih' rfl rfl)
           · rw [hq2, z5r k4] at hc2
             simp only at hc2
             have hfv := zq6 (X := X) (s := s) (qs := qs) (j2 : Nat) (pl s us j2) 3 (pl s us j) 8 (e0 + 1)
             have hR : zaa (us.drop j) = ((av, 0), .er (us.drop j2) (us.drop j2) 3) := by
              rw [zaa, hq]; simp only; rw [if_pos h45, ht, hq2]
             rw [hR] at i3
             have ih' := ih (m, acc ++ [(av, 0)], j2, some (j2, 3)) ⟨k4, by simp; omega, i3.symm, by simp⟩ (by simp only; omega)
             rw [hie] at ih'; simp only [lbk] at ih'
             by_cases h0 : (0 : Int) < av
             · skip
               repeat' (first | (apply z0e; (first | refine z11 rfl (by decide) ?_ | (apply z0a; (refine z0q rfl (z02 _ (e0, X) _) rfl rfl rfl rfl (by decide) ?_)) | (apply z07; (refine z00 (z04 rfl rfl) rfl rfl (by decide) ?_)) | (apply z13; (refine z00 (z19 (z1o (by omega) (by omega))) rfl rfl (by decide) ?_)) | (apply z1e; (refine z2d (g := rgc) rfl rfl (av, (0 : Int)) rfl rfl rfl rfl rfl rfl rfl (by decide) (by omega) ?_)) | (apply z0o; (first | refine z0m hfv rfl (bk1 (m := (e0 + 1, X)) (z02 _ (e0, X) _)) (by decide) ?_ | refine z0v hc2 rfl (z02 _ (e0, X) _) z1k (by decide) ?_ | refine z0m hn1 rfl (bk1 (m := (e0 + 1, X)) (z02 _ (e0, X) _)) (by decide) ?_ | refine z0v hc rfl (z02 _ (e0, X) _) z1k (by decide) ?_ | refine z0m hp rfl (bk1 (m := (e0 + 1, X)) (z02 _ (e0, X) _)) (by decide) ?_ | refine z0m hnj rfl (bk1 (m := (e0 + 1, X)) (z02 _ (e0, X) _)) (by decide) ?_)) | (apply z05; (refine z0w (raw' := rbx s qs ((j1 + 1 : Nat) : Int) 0 0 false) rfl (z02 _ (e0, X) _) rfl rfl rfl rfl rfl rfl ?_)) | (apply z0y; (refine z0x rfl rfl rfl rfl rfl rfl rfl (by decide) ?_)) | (apply z27; (refine z29 rfl rfl rfl rfl rfl rfl rfl rfl (by decide) ?_)))) | (apply z0b; (first | refine z10 ?_ | apply z0d)) | (apply z0c; (first | apply z0f | apply z01 | refine z0r rfl ?_ | apply z09 | apply z03 | apply z08 | refine z1i rfl (fun _ => ?_) (fun _ => ?_) | refine z2i rfl (fun _ => ?_) (fun _ => ?_) | refine z0p rfl ?_)))
               all_goals try (exfalso; omega)
               all_goals ((repeat rw [z0i]); refine z38 80 1000 rfl rfl ?_; exact z0s ih' rfl rfl)
             · skip
               repeat' (first | (apply z0e; (first | refine z11 rfl (by decide) ?_ | (apply z0a; (refine z0q rfl (z02 _ (e0, X) _) rfl rfl rfl rfl (by decide) ?_)) | (apply z07; (refine z00 (z04 rfl rfl) rfl rfl (by decide) ?_)) | (apply z13; (refine z00 (z19 (z1o (by omega) (by omega))) rfl rfl (by decide) ?_)) | (apply z1e; (refine z2d (g := rgc) rfl rfl (av, (0 : Int)) rfl rfl rfl rfl rfl rfl rfl (by decide) (by omega) ?_)) | (apply z0o; (first | refine z0m hfv rfl (bk1 (m := (e0 + 1, X)) (z02 _ (e0, X) _)) (by decide) ?_ | refine z0v hc2 rfl (z02 _ (e0, X) _) z1k (by decide) ?_ | refine z0m hn1 rfl (bk1 (m := (e0 + 1, X)) (z02 _ (e0, X) _)) (by decide) ?_ | refine z0v hc rfl (z02 _ (e0, X) _) z1k (by decide) ?_ | refine z0m hp rfl (bk1 (m := (e0 + 1, X)) (z02 _ (e0, X) _)) (by decide) ?_ | refine z0m hnj rfl (bk1 (m := (e0 + 1, X)) (z02 _ (e0, X) _)) (by decide) ?_)) | (apply z05; (refine z0w (raw' := rbx s qs ((j1 + 1 : Nat) : Int) 0 0 false) rfl (z02 _ (e0, X) _) rfl rfl rfl rfl rfl rfl ?_)) | (apply z0y; (refine z0x rfl rfl rfl rfl rfl rfl rfl (by decide) ?_)) | (apply z27; (refine z29 rfl rfl rfl rfl rfl rfl rfl rfl (by decide) ?_)))) | (apply z0b; (first | refine z10 ?_ | apply z0d)) | (apply z0c; (first | apply z0f | apply z01 | refine z0r rfl ?_ | apply z09 | apply z03 | apply z08 | refine z1i rfl (fun _ => ?_) (fun _ => ?_) | refine z2i rfl (fun _ => ?_) (fun _ => ?_) | refine z0p rfl ?_)))
               all_goals try (exfalso; omega)
               all_goals ((repeat rw [z0i]); refine z38 80 1000 rfl rfl ?_; exact z0s ih' rfl rfl)
         · have hR : zaa (us.drop j) = ((av, av), .ok (us.drop j1)) := by
            rw [zaa, hq]; simp only; rw [if_neg h45]
           rw [hR] at i3
           have ih' := ih (m, acc ++ [(av, av)], j1, none) ⟨k2, by simp; omega, i3, fun r hr => (by
            rw [List.mem_append, List.mem_singleton] at hr
            rcases hr with hr | rfl
            · exact i4 r hr
            · exact ⟨a0, by simp only; omega, a1⟩)⟩ (by simp only; omega)
           rw [hie] at ih'; simp only [lbk] at ih'
           repeat' (first | (apply z0e; (first | refine z11 rfl (by decide) ?_ | (apply z0a; (refine z0q rfl (z02 _ (e0, X) _) rfl rfl rfl rfl (by decide) ?_)) | (apply z07; (refine z00 (z04 rfl rfl) rfl rfl (by decide) ?_)) | (apply z13; (refine z00 (z19 (z1o (by omega) (by omega))) rfl rfl (by decide) ?_)) | (apply z1e; (refine z2d (g := rgc) rfl rfl (av, av) rfl rfl rfl rfl rfl rfl rfl (by decide) (by omega) ?_)) | (apply z0o; (first | refine z0m hn1 rfl (bk1 (m := (e0 + 1, X)) (z02 _ (e0, X) _)) (by decide) ?_ | refine z0v hc rfl (z02 _ (e0, X) _) z1k (by decide) ?_ | refine z0m hp rfl (bk1 (m := (e0 + 1, X)) (z02 _ (e0, X) _)) (by decide) ?_ | refine z0m hnj rfl (bk1 (m := (e0 + 1, X)) (z02 _ (e0, X) _)) (by decide) ?_)) | (apply z05; (refine z0w (raw' := rbx s qs ((j1 + 1 : Nat) : Int) 0 0 false) rfl (z02 _ (e0, X) _) rfl rfl rfl rfl rfl rfl ?_)) | (apply z0y; (refine z0x rfl rfl rfl rfl rfl rfl rfl (by decide) ?_)) | (apply z27; (refine z29 rfl rfl rfl rfl rfl rfl rfl rfl (by decide) ?_)))) | (apply z0b; (first | refine z10 ?_ | apply z0d)) | (apply z0c; (first | apply z0f | apply z01 | apply z09 | apply z03 | apply z08 | refine z1i rfl (fun _ => ?_) (fun _ => ?_) | refine z2i rfl (fun _ => ?_) (fun _ => ?_) | refine z0p rfl ?_)))
           all_goals try (exfalso; omega)
           all_goals ((repeat rw [z0i]); refine z38 80 1000 rfl rfl ?_; exact z0s ih' rfl rfl)
       · have hc := z8o (X := X) hu zji j i1 (e0 + 1)
         rw [hq, z5r k2] at hc
         simp only at hc
         have hnv := zj2 (X := X) hu (j1 : Nat) (pl s us j1) 3 (e0 + 1)
         have hR : zaa (us.drop j) = (((0 : Int), (0 : Int)), .er (us.drop j1) (us.drop j1) 3) := by
          rw [zaa, hq]
         rw [hR] at i3
         have ih' := ih (m, acc ++ [((0 : Int), (0 : Int))], j1, some (j1, 3)) ⟨k2, by simp; omega, i3.symm, by simp⟩ (by simp only; omega)
         rw [hie] at ih'; simp only [lbk] at ih'
         repeat' (first | (apply z0e; (first | refine z11 rfl (by decide) ?_ | (apply z0a; (refine z0q rfl (z02 _ (e0, X) _) rfl rfl rfl rfl (by decide) ?_)) | (apply z07; (refine z00 (z04 rfl rfl) rfl rfl (by decide) ?_)) | (apply z1e; (refine z2d (g := rgc) rfl rfl ((0 : Int), (0 : Int)) rfl rfl rfl rfl rfl rfl rfl (by decide) (by omega) ?_)) | (apply z0o; (first | refine z0m hnv rfl (bk1 (m := (e0 + 1, X)) (z02 _ (e0, X) _)) (by decide) ?_ | refine z0v hc rfl (z02 _ (e0, X) _) z1k (by decide) ?_ | refine z0m hp rfl (bk1 (m := (e0 + 1, X)) (z02 _ (e0, X) _)) (by decide) ?_ | refine z0m hnj rfl (bk1 (m := (e0 + 1, X)) (z02 _ (e0, X) _)) (by decide) ?_)) | (apply z0y; (refine z0x rfl rfl rfl rfl rfl rfl rfl (by decide) ?_)) | (apply z27; (refine z29 rfl rfl rfl rfl rfl rfl rfl rfl (by decide) ?_)))) | (apply z0b; (first | refine z10 ?_ | apply z0d)) | (apply z0c; (first | apply z0f | apply z01 | refine z0h rfl ?_ | apply z09 | apply z03 | apply z08 | refine z2i rfl (fun _ => ?_) (fun _ => ?_) | refine z0p rfl ?_)))
         all_goals try (exfalso; omega)
         all_goals ((repeat rw [z0i]); refine z38 80 1000 rfl rfl ?_; exact z0s ih' rfl rfl)
 · by_cases h94 : nx (us.drop (i + 1)) = 94
   · rw [if_pos h94] at hj0e
     rw [decide_eq_true h94] at hnb
     subst hj0e; subst hnb
     repeat' (first | (apply z0e; (first | refine z11 rfl (by decide) ?_ | (apply z0a; (refine z0q rfl (z02 _ (e0, X) _) rfl rfl rfl rfl (by decide) ?_)) | (apply z07; (refine z00 (z04 rfl rfl) rfl rfl (by decide) ?_)) | (apply z13; (refine z00 (z19 (z1o (by omega) (by omega))) rfl rfl (by decide) ?_)) | (apply z05; (refine z0w (raw' := rbx s qs ((i + 2 : Nat) : Int) 0 0 false) rfl (z02 _ (e0, X) _) rfl rfl rfl rfl rfl rfl ?_)))) | (apply z0b; (first | refine z10 ?_ | apply z0d)) | (apply z0c; (first | (refine z9h (A := .region 6 _ _) ?_) | apply z0f | apply z01 | refine z0r rfl ?_)))
     all_goals try (exfalso; omega)
     all_goals (refine z7d ?_; (repeat rw [z0i]); exact z0s hj rfl rfl)
   · rw [if_neg h94] at hj0e
     rw [decide_eq_false h94] at hnb
     subst hj0e; subst hnb
     repeat' (first | (apply z0e; (refine z11 rfl (by decide) ?_)) | (apply z0b; (first | refine z10 ?_ | apply z0d)) | (apply z0c; (first | (refine z9h (A := .region 6 _ _) ?_) | apply z0f | apply z01 | refine z0h rfl ?_ | apply z09)))
     all_goals try (exfalso; omega)
     all_goals (refine z7d ?_; (repeat rw [z0i]); exact z0s hj rfl rfl)
end
end Go.Proofs.YtjmbjgecfpggdaaGreatDoor
