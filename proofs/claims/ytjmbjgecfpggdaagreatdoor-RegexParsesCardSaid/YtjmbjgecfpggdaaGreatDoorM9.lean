/- A part of the proof: Z9. -/
import Derived.Test.YtjmbjgecfpggdaaGreatDoorM8
import Derived.Test.YtjmbjgecfpggdaaGreatDoorRu
set_option linter.all false
set_option linter.unusedVariables false
set_option linter.unusedSimpArgs false
namespace Go.Proofs.YtjmbjgecfpggdaaGreatDoor
open Go.Ab Go.Rx
set_option maxHeartbeats 20000000
set_option maxRecDepth 100000
attribute [local irreducible] Run Ops Op1 z2q Val Tr z1p z2j NF Rel z5b z5c z84
theorem zly {us : List U} {i : Nat} (hi : i ≤ us.length) {k : Int} {r : List U} (h : (z6r k (us.drop i)).2 = .ok r) : k ≤ (z6r k (us.drop i)).1 ∧ (z6r k (us.drop i)).1 ≤ 16 ∧ ∃ j, i ≤ j ∧ j ≤ us.length ∧ r = us.drop j := by
 have h1 := zeg k (us.drop i)
 rw [h] at h1
 have h2 := (zb7 k (us.drop i)).1
 have h3 := ze3 h1
 simp only at h1
 rw [h1] at h2
 exact ⟨h3.1, h3.2, z7n hi h2⟩
theorem zdw {us : List U} {i : Nat} (hi : i ≤ us.length) {c : Int} (h0 : 0 ≤ c) : (∃ j, i ≤ j ∧ j ≤ us.length ∧ z4c c (us.drop i) = .ok (us.drop j)) ∨ z4c c (us.drop i) = .er (us.drop i) (us.drop i) 3 := by
 rw [z4c]
 split
 · rename_i h
   have hlt : i < us.length := by
    false_or_by_contra
    rw [List.drop_eq_nil_of_le (by omega)] at h; simp [nx] at h; omega
   exact .inl ⟨i + 1, by omega, hlt, by rw [List.tail_drop]⟩
 · exact .inr rfl
def zrw (n : Nat) : Rs → Rs
 | .out => .out
 | .res e (.er y a c) => .res e (.er y a c)
 | .res e (.ok l1) => rQ n e l1
theorem zte (n : Nat) (l : List U) : rR (n + 1) l = zrw n (rA n l) := by
 rw [rR]
 rcases rA n l with _ | ⟨e, r | ⟨y, a, c⟩⟩ <;> rfl
def qJ (us : List U) (T : Rs) (m : Nat) (e : Rx) : Sr → Prop
 | .ok r => ∃ j, j ≤ us.length ∧ r = us.drop j ∧ rQ m e r = T
 | .er y a c => T = .res e (.er y a c)
theorem zm7 {us : List U} {T : Rs} {m : Nat} {e : Rx} {t : Sr} (ht : ∀ r, t = .ok r → ∃ j, j ≤ us.length ∧ r = us.drop j) (h : zrw m (.res e t) = T) : qJ us T m e t := by
 cases t with
 | er y a c => exact h.symm
 | ok r =>
  obtain ⟨j, hj, rfl⟩ := ht r rfl
  exact ⟨j, hj, rfl, h⟩
section
variable {s : ByteArray} {us : List U} {qs : List Uq} {X : Nat} (hu : Un5 s us qs)
include hu
theorem zkt (N : Nat) (hA : KA s us qs X N) : KR s us qs X (N + 2) := by
 intro i hi e0 hne
 refine z2k fun H hH => ?_
 have hX : H e0 X = some (rbx s qs i 0 0 false) := hH ((e0, X), rbx s qs i 0 0 false) (by simp)
 have hfw := hu.few
 refine z1c Tryz.func53 (by kernel_rfl) rfl (by simp) ?_
 dsimp only [Tryz.f53]
 rw [zte] at hne ⊢
 have ha := hA i hi (e0 + 1) (fun h => hne (by rw [h]; rfl))
 obtain ⟨e, t, hp⟩ : ∃ e t, rA (N + 1) (us.drop i) = .res e t := by
  cases hp : rA (N + 1) (us.drop i) with
  | out => rw [hp] at hne; exact absurd rfl hne
  | res e t => exact ⟨e, t, rfl⟩
 have hat := fun r => zva (n := N + 1) hi (e := e) (r := r)
 rw [hp] at ha hne ⊢
 simp only [hp] at hat
 obtain ⟨T, hT0⟩ : ∃ T, zrw (N + 1) (.res e t) = T := ⟨_, rfl⟩
 rw [hT0] at hne ⊢
 obtain ⟨op, mn, mx, rs, ks⟩ := e
 simp only [bkR, rsR] at ha
 rw [z2r] at ha
 have hJ0 : qJ us T (N + 1) (.mk op mn mx rs ks) t := by
  cases t with
  | er y a c => exact hT0.symm
  | ok r =>
   obtain ⟨j, _, h2, h3⟩ := hat r rfl
   exact ⟨j, h2, h3, hT0⟩
 generalize hBB : bkS s us qs t = BB at *
 repeat' (first | (apply z0e; (first | refine z11 rfl (by decide) ?_ | (apply z0o; (refine z0v ha rfl hX z1k (by decide) ?_)) | (apply z05; (refine z06 rfl rfl rfl rfl rfl rfl ?_)) | (apply z0n; (refine z0k (z0l rfl rfl (by decide)) ?_)))) | (apply z0b; (first | refine z10 ?_ | apply z0d)) | (apply z0c; (first | apply z0f | apply z01 | apply z03)))
 all_goals try (exfalso; omega)
 rw [← hBB]
 refine z1x ?_
 refine z0s (z2u (fun q : Nat × Rx × Sr => ⟨86, [(0, .ptr (e0 + 1, X) 0), (2, .ptr (0, 2) 0), (3, .ptr (0, 3) 0)], [(3, .box [.d (z48 q.2.1.op), .d (z48 q.2.1.mn), .d (z48 q.2.1.mx), .d (rgs q.2.1.rs), .d (.slice (q.2.1.ks.map rxc))]), (2, .box (z3y [Value.int .i64 0, Value.int .i64 0, Value.int .i64 0, z2o, z2o]))], upd H (e0, X) (bkS s us qs q.2.2)⟩)
  (fun q => qJ us T q.1 q.2.1 q.2.2) (fun q => q.1) ?_ (N + 1, .mk op mn mx rs ks, t) hJ0) rfl rfl
 clear hT0 ha hp hat hJ0 hBB BB
 rintro ⟨m, ⟨op, mn, mx, rs, ks⟩, t⟩ i0 ih
 simp only [Rx.op, Rx.mn, Rx.mx, Rx.rs, Rx.ks] at i0 ih ⊢
 cases t with
 | er y a c =>
  rw [show T = _ from i0, bkR, rsR, z2r]
  simp only [bkS]
  clear ih
  repeat' (first | (apply z0e; (first | refine z11 rfl (by decide) ?_ | (apply z0a; (first | refine z0q rfl (z02 _ (e0, X) _) rfl rfl rfl rfl (by decide) ?_ | refine z00 (z15 rfl rfl rfl rfl) rfl rfl (by decide) ?_)) | (apply z07; (refine z00 (z04 rfl rfl) rfl rfl (by decide) ?_)) | (apply z05; (refine z06 rfl rfl rfl rfl rfl rfl ?_)))) | (apply z0b; (first | refine z10 ?_ | apply z0d)) | (apply z0c; (first | apply z0f | apply z01 | refine z0h rfl ?_ | refine z0p rfl ?_)))
  all_goals try (exfalso; omega)
  all_goals ((repeat rw [z0i]); exact z0g Tryz.func53 _ (z1n rfl rfl rfl rfl rfl rfl) ⟨rfl, rfl⟩)
 | ok r =>
  obtain ⟨j, i1, rfl, i2⟩ := i0
  cases m with
  | zero => rw [rQ] at i2; exact absurd i2.symm hne
  | succ m =>
  have hn := z81 (X := X) hu j i1 0 0 (e0 + 1)
  rw [rQ] at i2
  rw [z3j i1]
  by_cases h42 : nx (us.drop j) = 42
  · rw [if_pos h42] at i2
    obtain ⟨hjl, htj, _⟩ := nxd hu h42 (by decide)
    rw [htj] at i2
    rw [h42] at hn
    have ih' := ih (m, z5f 0 (-1) (.mk op mn mx rs ks), .ok (us.drop (j + 1))) ⟨j + 1, hjl, rfl, i2⟩ (by simp only; omega)
    rw [z3j hjl] at ih'
    simp only [z5f, Rx.op, Rx.mn, Rx.mx, Rx.ks, List.map_cons, List.map_nil, z1v] at ih'
    repeat' (first | (apply z0e; (first | refine z11 rfl (by decide) ?_ | (apply z0a; (first | refine z0q rfl (z02 _ (e0, X) _) rfl rfl rfl rfl (by decide) ?_ | refine z00 (z15 rfl rfl rfl rfl) rfl rfl (by decide) ?_)) | (apply z07; (refine z00 (z04 rfl rfl) rfl rfl (by decide) ?_)) | (apply z13; (refine z00 (z19 (z1o (by omega) (by omega))) rfl rfl (by decide) ?_)) | (apply z0o; (refine z0m hn rfl (bk1 (m := (e0 + 1, X)) (z02 _ (e0, X) _)) (by decide) ?_)) | (apply z05; (first | refine z0w (raw' := rbx s qs ((j + 1 : Nat) : Int) 0 0 false) rfl (z02 _ (e0, X) _) rfl rfl rfl rfl rfl rfl ?_ | refine z06 rfl rfl rfl rfl rfl rfl ?_)) | (apply z0n; (refine z0k (z0l rfl rfl (by decide)) ?_)) | (apply z0y; (refine z0x rfl rfl rfl rfl rfl rfl rfl (by decide) ?_)) | (apply z27; (refine z29 rfl rfl rfl rfl rfl rfl rfl rfl (by decide) ?_)))) | (apply z0b; (first | refine z10 ?_ | apply z0d)) | (apply z0c; (first | apply z0f | apply z01 | refine z0r rfl ?_ | apply z09 | apply z03 | apply z08)))
    all_goals try (exfalso; omega)
    all_goals ((repeat rw [z0i]); exact z0s ih' rfl rfl)
  rw [if_neg h42] at i2
  by_cases h43 : nx (us.drop j) = 43
  · rw [if_pos h43] at i2
    obtain ⟨hjl, htj, _⟩ := nxd hu h43 (by decide)
    rw [htj] at i2
    rw [h43] at hn
    have ih' := ih (m, z5f 1 (-1) (.mk op mn mx rs ks), .ok (us.drop (j + 1))) ⟨j + 1, hjl, rfl, i2⟩ (by simp only; omega)
    rw [z3j hjl] at ih'
    simp only [z5f, Rx.op, Rx.mn, Rx.mx, Rx.ks, List.map_cons, List.map_nil, z1v] at ih'
    repeat' (first | (apply z0e; (first | refine z11 rfl (by decide) ?_ | (apply z0a; (first | refine z0q rfl (z02 _ (e0, X) _) rfl rfl rfl rfl (by decide) ?_ | refine z00 (z15 rfl rfl rfl rfl) rfl rfl (by decide) ?_)) | (apply z07; (refine z00 (z04 rfl rfl) rfl rfl (by decide) ?_)) | (apply z13; (refine z00 (z19 (z1o (by omega) (by omega))) rfl rfl (by decide) ?_)) | (apply z0o; (refine z0m hn rfl (bk1 (m := (e0 + 1, X)) (z02 _ (e0, X) _)) (by decide) ?_)) | (apply z05; (first | refine z0w (raw' := rbx s qs ((j + 1 : Nat) : Int) 0 0 false) rfl (z02 _ (e0, X) _) rfl rfl rfl rfl rfl rfl ?_ | refine z06 rfl rfl rfl rfl rfl rfl ?_)) | (apply z0n; (refine z0k (z0l rfl rfl (by decide)) ?_)) | (apply z0y; (refine z0x rfl rfl rfl rfl rfl rfl rfl (by decide) ?_)) | (apply z27; (refine z29 rfl rfl rfl rfl rfl rfl rfl rfl (by decide) ?_)))) | (apply z0b; (first | refine z10 ?_ | apply z0d)) | (apply z0c; (first | apply z0f | apply z01 | refine z0r rfl ?_ | refine z0h rfl ?_ | apply z09 | apply z03 | apply z08)))
    all_goals try (exfalso; omega)
    all_goals ((repeat rw [z0i]); exact z0s ih' rfl rfl)
  rw [if_neg h43] at i2
  by_cases h63 : nx (us.drop j) = 63
  · rw [if_pos h63] at i2
    obtain ⟨hjl, htj, _⟩ := nxd hu h63 (by decide)
    rw [htj] at i2
    rw [h63] at hn
    have ih' := ih (m, z5f 0 1 (.mk op mn mx rs ks), .ok (us.drop (j + 1))) ⟨j + 1, hjl, rfl, i2⟩ (by simp only; omega)
    rw [z3j hjl] at ih'
    simp only [z5f, Rx.op, Rx.mn, Rx.mx, Rx.ks, List.map_cons, List.map_nil, z1v] at ih'
    repeat' (first | (apply z0e; (first | refine z11 rfl (by decide) ?_ | (apply z0a; (first | refine z0q rfl (z02 _ (e0, X) _) rfl rfl rfl rfl (by decide) ?_ | refine z00 (z15 rfl rfl rfl rfl) rfl rfl (by decide) ?_)) | (apply z07; (refine z00 (z04 rfl rfl) rfl rfl (by decide) ?_)) | (apply z13; (refine z00 (z19 (z1o (by omega) (by omega))) rfl rfl (by decide) ?_)) | (apply z0o; (refine z0m hn rfl (bk1 (m := (e0 + 1, X)) (z02 _ (e0, X) _)) (by decide) ?_)) | (apply z05; (first | refine z0w (raw' := rbx s qs ((j + 1 : Nat) : Int) 0 0 false) rfl (z02 _ (e0, X) _) rfl rfl rfl rfl rfl rfl ?_ | refine z06 rfl rfl rfl rfl rfl rfl ?_)) | (apply z0n; (refine z0k (z0l rfl rfl (by decide)) ?_)) | (apply z0y; (refine z0x rfl rfl rfl rfl rfl rfl rfl (by decide) ?_)) | (apply z27; (refine z29 rfl rfl rfl rfl rfl rfl rfl rfl (by decide) ?_)))) | (apply z0b; (first | refine z10 ?_ | apply z0d)) | (apply z0c; (first | apply z0f | apply z01 | refine z0r rfl ?_ | refine z0h rfl ?_ | apply z09 | apply z03 | apply z08)))
    all_goals try (exfalso; omega)
    all_goals ((repeat rw [z0i]); exact z0s ih' rfl rfl)
  rw [if_neg h63] at i2
  by_cases h123 : nx (us.drop j) = 123
  · rw [if_pos h123] at i2
    obtain ⟨hjl, htj, _⟩ := nxd hu h123 (by decide)
    rw [htj] at i2
    rw [h123] at hn
    have hm := zfd (X := X) hu 0 (by decide) (by decide) (j + 1) hjl (e0 + 1)
    have hat := fun r => zly hjl (k := 0) (r := r)
    obtain ⟨A, hA0⟩ : ∃ A, z6r 0 (us.drop (j + 1)) = A := ⟨_, rfl⟩
    rw [hA0] at hm
    simp only [hA0] at hat
    obtain ⟨lo, t1⟩ := A
    cases t1 with
    | er y a c =>
     have hB : zcn (us.drop (j + 1)) = (lo, lo, .er y a c) := by rw [zcn, hA0]
     rw [hB] at i2
     have ih' := ih (m, z5f lo lo (.mk op mn mx rs ks), .er y a c) i2.symm (by simp only; omega)
     have hnv := zj2 (X := X) hu (us.length - y.length) ((s.size - bts a : Nat) : Int) c (e0 + 1)
     have hw := zea (X := X) hu (us.length - y.length) (by omega) 125 ((s.size - bts a : Nat) : Int) c (by decide) (e0 + 1)
     simp only [bkS] at hm ih'
     simp only [z5f, Rx.op, Rx.mn, Rx.mx, Rx.ks, List.map_cons, List.map_nil, z1v] at ih'
     repeat' (first | (apply z0e; (first | refine z11 rfl (by decide) ?_ | (apply z0a; (first | refine z0q rfl (z02 _ (e0, X) _) rfl rfl rfl rfl (by decide) ?_ | refine z00 (z0u rfl rfl rfl rfl) rfl rfl (by decide) ?_ | refine z00 (z15 rfl rfl rfl rfl) rfl rfl (by decide) ?_)) | (apply z07; (refine z00 (z04 rfl rfl) rfl rfl (by decide) ?_)) | (apply z13; (refine z00 (z19 (z1o (by omega) (by omega))) rfl rfl (by decide) ?_)) | (apply z0o; (first | refine z0m hw rfl (bk1 (m := (e0 + 1, X)) (z02 _ (e0, X) _)) (by decide) ?_ | refine z0m hnv rfl (bk1 (m := (e0 + 1, X)) (z02 _ (e0, X) _)) (by decide) ?_ | refine z0v hm rfl (z02 _ (e0, X) _) z1k (by decide) ?_ | refine z0m hn rfl (bk1 (m := (e0 + 1, X)) (z02 _ (e0, X) _)) (by decide) ?_)) | (apply z05; (first | refine z0w (raw' := rbx s qs ((j + 1 : Nat) : Int) 0 0 false) rfl (z02 _ (e0, X) _) rfl rfl rfl rfl rfl rfl ?_ | refine z06 rfl rfl rfl rfl rfl rfl ?_)) | (apply z0n; (refine z0k (z0l rfl rfl (by decide)) ?_)) | (apply z0y; (refine z0x rfl rfl rfl rfl rfl rfl rfl (by decide) ?_)) | (apply z27; (refine z29 rfl rfl rfl rfl rfl rfl rfl rfl (by decide) ?_)))) | (apply z0b; (first | refine z10 ?_ | apply z0d)) | (apply z0c; (first | apply z0f | apply z01 | refine z0r rfl ?_ | refine z0h rfl ?_ | apply z09 | apply z03 | apply z08)))
     all_goals try (exfalso; omega)
     all_goals ((repeat rw [z0i]); exact z0s ih' rfl rfl)
    | ok r =>
     obtain ⟨b1, b2, k, hk1, hk, rfl⟩ := hat r rfl
     simp only at b1 b2 hm
     rw [z3j hk] at hm
     have hn2 := z81 (X := X) hu k hk 0 0 (e0 + 1)
     have htk : (us.drop k).tail = us.drop (k + 1) := List.tail_drop
     by_cases h44 : nx (us.drop k) = 44
     · obtain ⟨hkl, _, _⟩ := nxd hu h44 (by decide)
       have hn3 := z81 (X := X) hu (k + 1) hkl 0 0 (e0 + 1)
       rw [h44] at hn2
       by_cases h125 : nx (us.drop (k + 1)) = 125
       · have hB : zcn (us.drop (j + 1)) = (lo, -1, z4c 125 (us.drop (k + 1))) := by rw [zcn, hA0]; simp only; rw [if_pos h44, htk, if_pos h125]
         rw [hB] at i2
         have hw := zev (X := X) hu (k + 1) hkl 125 (by decide) (e0 + 1)
         have hwa := zdw (c := 125) hkl (by decide)
         have i2' : zrw m (.res (z5f lo (-1) (.mk op mn mx rs ks)) (z4c 125 (us.drop (k + 1)))) = T := by rw [← i2]; generalize z4c 125 (us.drop (k + 1)) = z; cases z <;> rfl
         have ih' := ih (m, z5f lo (-1) (.mk op mn mx rs ks), z4c 125 (us.drop (k + 1))) (zm7 (fun r hr => by
          rcases hwa with ⟨j', _, h2, h3⟩ | h3
          · rw [h3] at hr; simp only [Sr.ok.injEq] at hr; exact ⟨j', h2, hr.symm⟩
          · rw [h3] at hr; cases hr) i2') (by simp only; omega)
         generalize bkS s us qs (z4c 125 (us.drop (k + 1))) = BB at *
         rw [h125] at hn3
         simp only [z5f, Rx.op, Rx.mn, Rx.mx, Rx.ks, List.map_cons, List.map_nil, z1v] at ih'
         repeat' (first | (apply z0e; (first | refine z11 rfl (by decide) ?_ | (apply z0a; (first | refine z0q rfl (z02 _ (e0, X) _) rfl rfl rfl rfl (by decide) ?_ | refine z00 (z0u rfl rfl rfl rfl) rfl rfl (by decide) ?_ | refine z00 (z15 rfl rfl rfl rfl) rfl rfl (by decide) ?_)) | (apply z07; (refine z00 (z04 rfl rfl) rfl rfl (by decide) ?_)) | (apply z13; (refine z00 (z19 (z1o (by omega) (by omega))) rfl rfl (by decide) ?_)) | (apply z0o; (first | refine z0v hw rfl (z02 _ (e0, X) _) z1k (by decide) ?_ | refine z0m hn3 rfl (bk1 (m := (e0 + 1, X)) (z02 _ (e0, X) _)) (by decide) ?_ | refine z0m hn2 rfl (bk1 (m := (e0 + 1, X)) (z02 _ (e0, X) _)) (by decide) ?_ | refine z0v hm rfl (z02 _ (e0, X) _) z1k (by decide) ?_ | refine z0m hn rfl (bk1 (m := (e0 + 1, X)) (z02 _ (e0, X) _)) (by decide) ?_)) | (apply z05; (first | refine z0w (raw' := rbx s qs ((k + 1 : Nat) : Int) 0 0 false) rfl (z02 _ (e0, X) _) rfl rfl rfl rfl rfl rfl ?_ | refine z0w (raw' := rbx s qs ((j + 1 : Nat) : Int) 0 0 false) rfl (z02 _ (e0, X) _) rfl rfl rfl rfl rfl rfl ?_ | refine z06 rfl rfl rfl rfl rfl rfl ?_)) | (apply z0n; (refine z0k (z0l rfl rfl (by decide)) ?_)) | (apply z0y; (refine z0x rfl rfl rfl rfl rfl rfl rfl (by decide) ?_)) | (apply z27; (refine z29 rfl rfl rfl rfl rfl rfl rfl rfl (by decide) ?_)))) | (apply z0b; (first | refine z10 ?_ | apply z0d)) | (apply z0c; (first | apply z0f | apply z01 | refine z0r rfl ?_ | refine z0h rfl ?_ | apply z09 | apply z03 | apply z08)))
         all_goals try (exfalso; omega)
         all_goals ((repeat rw [z0i]); exact z0s ih' rfl rfl)
       · have hm2 := zfd (X := X) hu lo b1 (by omega) (k + 1) hkl (e0 + 1)
         have hat2 := fun r => zly hkl (k := lo) (r := r)
         obtain ⟨A2, hA2⟩ : ∃ A, z6r lo (us.drop (k + 1)) = A := ⟨_, rfl⟩
         rw [hA2] at hm2
         simp only [hA2] at hat2
         obtain ⟨hi', t2⟩ := A2
         cases t2 with
         | er y a c =>
          have hB : zcn (us.drop (j + 1)) = (lo, hi', .er y a c) := by rw [zcn, hA0]; simp only; rw [if_pos h44, htk, if_neg h125, hA2]
          rw [hB] at i2
          have ih' := ih (m, z5f lo hi' (.mk op mn mx rs ks), .er y a c) i2.symm (by simp only; omega)
          have hw := zea (X := X) hu (us.length - y.length) (by omega) 125 ((s.size - bts a : Nat) : Int) c (by decide) (e0 + 1)
          simp only [bkS] at hm2 ih'
          simp only [z5f, Rx.op, Rx.mn, Rx.mx, Rx.ks, List.map_cons, List.map_nil, z1v] at ih'
          repeat' (first | (apply z0e; (first | refine z11 rfl (by decide) ?_ | (apply z0a; (first | refine z0q rfl (z02 _ (e0, X) _) rfl rfl rfl rfl (by decide) ?_ | refine z00 (z0u rfl rfl rfl rfl) rfl rfl (by decide) ?_ | refine z00 (z15 rfl rfl rfl rfl) rfl rfl (by decide) ?_)) | (apply z07; (refine z00 (z04 rfl rfl) rfl rfl (by decide) ?_)) | (apply z13; (refine z00 (z19 (z1o (by omega) (by omega))) rfl rfl (by decide) ?_)) | (apply z0o; (first | refine z0m hw rfl (bk1 (m := (e0 + 1, X)) (z02 _ (e0, X) _)) (by decide) ?_ | refine z0v hm2 rfl (z02 _ (e0, X) _) z1k (by decide) ?_ | refine z0m hn3 rfl (bk1 (m := (e0 + 1, X)) (z02 _ (e0, X) _)) (by decide) ?_ | refine z0m hn2 rfl (bk1 (m := (e0 + 1, X)) (z02 _ (e0, X) _)) (by decide) ?_ | refine z0v hm rfl (z02 _ (e0, X) _) z1k (by decide) ?_ | refine z0m hn rfl (bk1 (m := (e0 + 1, X)) (z02 _ (e0, X) _)) (by decide) ?_)) | (apply z05; (first | refine z0w (raw' := rbx s qs ((k + 1 : Nat) : Int) 0 0 false) rfl (z02 _ (e0, X) _) rfl rfl rfl rfl rfl rfl ?_ | refine z0w (raw' := rbx s qs ((j + 1 : Nat) : Int) 0 0 false) rfl (z02 _ (e0, X) _) rfl rfl rfl rfl rfl rfl ?_ | refine z06 rfl rfl rfl rfl rfl rfl ?_)) | (apply z0n; (refine z0k (z0l rfl rfl (by decide)) ?_)) | (apply z0y; (refine z0x rfl rfl rfl rfl rfl rfl rfl (by decide) ?_)) | (apply z27; (refine z29 rfl rfl rfl rfl rfl rfl rfl rfl (by decide) ?_)))) | (apply z0b; (first | refine z10 ?_ | apply z0d)) | (apply z0c; (first | apply z0f | apply z01 | refine z0r rfl ?_ | refine z0h rfl ?_ | apply z09 | apply z03 | apply z08 | refine z2i rfl (fun _ => ?_) (fun _ => ?_))))
          all_goals try (exfalso; omega)
          all_goals ((repeat rw [z0i]); exact z0s ih' rfl rfl)
         | ok r =>
          obtain ⟨b3, b4, k2, hk3, hk2, rfl⟩ := hat2 r rfl
          simp only at b3 b4 hm2
          rw [z3j hk2] at hm2
          have hB : zcn (us.drop (j + 1)) = (lo, hi', z4c 125 (us.drop k2)) := by rw [zcn, hA0]; simp only; rw [if_pos h44, htk, if_neg h125, hA2]
          rw [hB] at i2
          have hw := zev (X := X) hu k2 hk2 125 (by decide) (e0 + 1)
          have hwa := zdw (c := 125) hk2 (by decide)
          have i2' : zrw m (.res (z5f lo hi' (.mk op mn mx rs ks)) (z4c 125 (us.drop k2))) = T := by rw [← i2]; generalize z4c 125 (us.drop k2) = z; cases z <;> rfl
          have ih' := ih (m, z5f lo hi' (.mk op mn mx rs ks), z4c 125 (us.drop k2)) (zm7 (fun r hr => by
           rcases hwa with ⟨j', _, h2, h3⟩ | h3
           · rw [h3] at hr; simp only [Sr.ok.injEq] at hr; exact ⟨j', h2, hr.symm⟩
           · rw [h3] at hr; cases hr) i2') (by simp only; omega)
          generalize bkS s us qs (z4c 125 (us.drop k2)) = BB at *
          simp only [z5f, Rx.op, Rx.mn, Rx.mx, Rx.ks, List.map_cons, List.map_nil, z1v] at ih'
          repeat' (first | (apply z0e; (first | refine z11 rfl (by decide) ?_ | (apply z0a; (first | refine z0q rfl (z02 _ (e0, X) _) rfl rfl rfl rfl (by decide) ?_ | refine z00 (z0u rfl rfl rfl rfl) rfl rfl (by decide) ?_ | refine z00 (z15 rfl rfl rfl rfl) rfl rfl (by decide) ?_)) | (apply z07; (refine z00 (z04 rfl rfl) rfl rfl (by decide) ?_)) | (apply z13; (refine z00 (z19 (z1o (by omega) (by omega))) rfl rfl (by decide) ?_)) | (apply z0o; (first | refine z0v hw rfl (z02 _ (e0, X) _) z1k (by decide) ?_ | refine z0v hm2 rfl (z02 _ (e0, X) _) z1k (by decide) ?_ | refine z0m hn3 rfl (bk1 (m := (e0 + 1, X)) (z02 _ (e0, X) _)) (by decide) ?_ | refine z0m hn2 rfl (bk1 (m := (e0 + 1, X)) (z02 _ (e0, X) _)) (by decide) ?_ | refine z0v hm rfl (z02 _ (e0, X) _) z1k (by decide) ?_ | refine z0m hn rfl (bk1 (m := (e0 + 1, X)) (z02 _ (e0, X) _)) (by decide) ?_)) | (apply z05; (first | refine z0w (raw' := rbx s qs ((k + 1 : Nat) : Int) 0 0 false) rfl (z02 _ (e0, X) _) rfl rfl rfl rfl rfl rfl ?_ | refine z0w (raw' := rbx s qs ((j + 1 : Nat) : Int) 0 0 false) rfl (z02 _ (e0, X) _) rfl rfl rfl rfl rfl rfl ?_ | refine z06 rfl rfl rfl rfl rfl rfl ?_)) | (apply z0n; (refine z0k (z0l rfl rfl (by decide)) ?_)) | (apply z0y; (refine z0x rfl rfl rfl rfl rfl rfl rfl (by decide) ?_)) | (apply z27; (refine z29 rfl rfl rfl rfl rfl rfl rfl rfl (by decide) ?_)))) | (apply z0b; (first | refine z10 ?_ | apply z0d)) | (apply z0c; (first | apply z0f | apply z01 | refine z0r rfl ?_ | refine z0h rfl ?_ | apply z09 | apply z03 | apply z08 | refine z2i rfl (fun _ => ?_) (fun _ => ?_))))
          all_goals try (exfalso; omega)
          all_goals ((repeat rw [z0i]); exact z0s ih' rfl rfl)
     · have hB : zcn (us.drop (j + 1)) = (lo, lo, z4c 125 (us.drop k)) := by rw [zcn, hA0]; simp only; rw [if_neg h44]
       rw [hB] at i2
       have hw := zev (X := X) hu k hk 125 (by decide) (e0 + 1)
       have hwa := zdw (c := 125) hk (by decide)
       have i2' : zrw m (.res (z5f lo lo (.mk op mn mx rs ks)) (z4c 125 (us.drop k))) = T := by rw [← i2]; generalize z4c 125 (us.drop k) = z; cases z <;> rfl
       have ih' := ih (m, z5f lo lo (.mk op mn mx rs ks), z4c 125 (us.drop k)) (zm7 (fun r hr => by
        rcases hwa with ⟨j', _, h2, h3⟩ | h3
        · rw [h3] at hr; simp only [Sr.ok.injEq] at hr; exact ⟨j', h2, hr.symm⟩
        · rw [h3] at hr; cases hr) i2') (by simp only; omega)
       generalize bkS s us qs (z4c 125 (us.drop k)) = BB at *
       simp only [z5f, Rx.op, Rx.mn, Rx.mx, Rx.ks, List.map_cons, List.map_nil, z1v] at ih'
       repeat' (first | (apply z0e; (first | refine z11 rfl (by decide) ?_ | (apply z0a; (first | refine z0q rfl (z02 _ (e0, X) _) rfl rfl rfl rfl (by decide) ?_ | refine z00 (z0u rfl rfl rfl rfl) rfl rfl (by decide) ?_ | refine z00 (z15 rfl rfl rfl rfl) rfl rfl (by decide) ?_)) | (apply z07; (refine z00 (z04 rfl rfl) rfl rfl (by decide) ?_)) | (apply z13; (refine z00 (z19 (z1o (by omega) (by omega))) rfl rfl (by decide) ?_)) | (apply z0o; (first | refine z0v hw rfl (z02 _ (e0, X) _) z1k (by decide) ?_ | refine z0m hn2 rfl (bk1 (m := (e0 + 1, X)) (z02 _ (e0, X) _)) (by decide) ?_ | refine z0v hm rfl (z02 _ (e0, X) _) z1k (by decide) ?_ | refine z0m hn rfl (bk1 (m := (e0 + 1, X)) (z02 _ (e0, X) _)) (by decide) ?_)) | (apply z05; (first | refine z0w (raw' := rbx s qs ((j + 1 : Nat) : Int) 0 0 false) rfl (z02 _ (e0, X) _) rfl rfl rfl rfl rfl rfl ?_ | refine z06 rfl rfl rfl rfl rfl rfl ?_)) | (apply z0n; (refine z0k (z0l rfl rfl (by decide)) ?_)) | (apply z0y; (refine z0x rfl rfl rfl rfl rfl rfl rfl (by decide) ?_)) | (apply z27; (refine z29 rfl rfl rfl rfl rfl rfl rfl rfl (by decide) ?_)))) | (apply z0b; (first | refine z10 ?_ | apply z0d)) | (apply z0c; (first | apply z0f | apply z01 | refine z0r rfl ?_ | refine z0h rfl ?_ | apply z09 | apply z03 | apply z08 | refine z1i rfl (fun _ => ?_) (fun _ => ?_))))
       all_goals try (exfalso; omega)
       all_goals ((repeat rw [z0i]); exact z0s ih' rfl rfl)
  rw [if_neg h123] at i2
  rw [← i2, bkR, rsR, z3j i1, z2r]
  repeat' (first | (apply z0e; (first | refine z11 rfl (by decide) ?_ | (apply z0a; (first | refine z0q rfl (z02 _ (e0, X) _) rfl rfl rfl rfl (by decide) ?_ | refine z00 (z15 rfl rfl rfl rfl) rfl rfl (by decide) ?_)) | (apply z07; (refine z00 (z04 rfl rfl) rfl rfl (by decide) ?_)) | (apply z13; (refine z00 (z19 (z1o (by omega) (by omega))) rfl rfl (by decide) ?_)) | (apply z0o; (refine z0m hn rfl (bk1 (m := (e0 + 1, X)) (z02 _ (e0, X) _)) (by decide) ?_)) | (apply z05; (refine z06 rfl rfl rfl rfl rfl rfl ?_)) | (apply z0n; (refine z0k (z0l rfl rfl (by decide)) ?_)) | (apply z0y; (refine z0x rfl rfl rfl rfl rfl rfl rfl (by decide) ?_)))) | (apply z0b; (first | refine z10 ?_ | apply z0d)) | (apply z0c; (first | apply z0f | apply z01 | refine z0r rfl ?_ | apply z09 | apply z03 | refine z1i rfl (fun _ => ?_) (fun _ => ?_))))
  all_goals try (exfalso; omega)
  all_goals ((repeat rw [z0i]); exact z0g Tryz.func53 _ (z1n rfl rfl rfl rfl rfl rfl) ⟨rfl, rfl⟩)
end
end Go.Proofs.YtjmbjgecfpggdaaGreatDoor
