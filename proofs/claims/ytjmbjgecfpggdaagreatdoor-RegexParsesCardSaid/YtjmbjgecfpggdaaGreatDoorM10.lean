/- A part of the proof: Z10. -/
import Derived.Test.YtjmbjgecfpggdaaGreatDoorM9
import Derived.Test.YtjmbjgecfpggdaaGreatDoorRu
set_option linter.all false
set_option linter.unusedVariables false
set_option linter.unusedSimpArgs false
namespace Go.Proofs.YtjmbjgecfpggdaaGreatDoor
open Go.Ab Go.Rx
set_option maxHeartbeats 20000000
set_option maxRecDepth 100000
attribute [local irreducible] Run Ops Op1 z2q Val Tr z1p z2j NF Rel z5b z5c z84
def nxS : Sr → Int
 | .ok r => nx r
 | .er _ _ _ => -1
theorem zeo {ps : List Rx} (h : ps.length ≠ 1) : zhq ps = fin 2 (ps.flatMap (flat 2)) := by
 match ps, h with
 | [], _ => rfl
 | [e], h => simp at h
 | a :: b :: ps, _ =>
  rw [zhq]
  · generalize (a :: b :: ps).flatMap (flat 2) = ks
    match ks with
    | [] => rfl
    | [k] => rfl
    | a :: b :: ks => rfl
  · intro e he; cases he
theorem zlu {ps : List Rx} (h : ps.length ≠ 1) : zjg ps = .mk 3 0 0 [] (ps.flatMap (flat 3)) := by
 match ps, h with
 | [], _ => rfl
 | [e], h => simp at h
 | a :: b :: ps, _ => rfl
def cJ (us : List U) (T : Rs) (m : Nat) (ps : List Rx) : Sr → Prop
 | .ok r => ∃ j, j ≤ us.length ∧ r = us.drop j ∧ rC m ps r = T ∧ szL ps + 2 * (us.length - j) ≤ 2 * us.length
 | .er y a c => T = .res (zhq ps) (.er y a c) ∧ szL ps ≤ 2 * us.length + 1
section
variable {s : ByteArray} {us : List U} {qs : List Uq} {X : Nat} (hu : Un5 s us qs)
include hu
theorem zkf (N : Nat) (hR : ∀ m, m < N → KR s us qs X m) : KC s us qs X N := by
 intro i hi e0 hne
 refine z2k fun H hH => ?_
 have hX : H e0 X = some (rbx s qs i 0 0 false) := hH ((e0, X), rbx s qs i 0 0 false) (by simp)
 have hfw := hu.few
 have hn := z81 (X := X) hu i hi 0 0 (e0 + 1)
 refine z1c Tryz.func34 (by kernel_rfl) rfl (by simp) ?_
 dsimp only [Tryz.f34]
 obtain ⟨T, hT0⟩ : ∃ T, rC N [] (us.drop i) = T := ⟨_, rfl⟩
 rw [hT0] at hne ⊢
 repeat' (first | (apply z0e; (first | refine z11 rfl (by decide) ?_ | (apply z0o; (refine z0m hn rfl (bk1 (m := (e0 + 1, X)) hX) (by decide) ?_)) | (apply z0n; (refine z0k (z0l rfl rfl (by decide)) ?_)))) | (apply z0b; (first | refine z10 ?_ | apply z0d)) | (apply z0c; (first | apply z0f | apply z01 | apply z03)))
 all_goals try (exfalso; omega)
 refine z3e 3 1000 25 5 rfl rfl rfl ?_
 refine z1x ?_
 refine zf4 (m := (e0, X)) hX ?_
 rw [← z3j (s := s) (qs := qs) hi]
 refine z0s (z2u (fun q : Nat × List Rx × Sr => ⟨65, [(0, .ptr (e0 + 1, X) 0), (2, .ptr (0, 2) 0), (3, .ref (0, 1000)), (4, I .i32 (nxS q.2.2))], [(1000, .row 25 5 (q.2.1.map rxc)), (2, .box (z3y [Value.int .i64 0, Value.int .i64 0, Value.int .i64 0, z2o, z2o]))], upd H (e0, X) (bkS s us qs q.2.2)⟩)
  (fun q => q.1 ≤ N ∧ cJ us T q.1 q.2.1 q.2.2) (fun q => q.1) ?_ (N, [], .ok (us.drop i)) ⟨Nat.le_refl _, i, hi, rfl, hT0, by simp [szL]; omega⟩) rfl rfl
 clear hT0 hn
 rintro ⟨m, ps, t⟩ ⟨i0, i1⟩ ih
 simp only at i0 i1 ih ⊢
 cases t with
 | er y a c =>
  obtain ⟨hT, hsz⟩ := i1
  simp only [nxS]
  rw [hT, bkR, rsR]
  generalize bkS s us qs (Sr.er y a c) = BB at *
  clear ih
  have hll := z3k ps
  by_cases h1 : ps.length = 1
  · obtain ⟨x, rfl⟩ := List.length_eq_one_iff.1 h1
    obtain ⟨op, mn, mx, rs, ks⟩ := x
    rw [show zhq [Rx.mk op mn mx rs ks] = Rx.mk op mn mx rs ks from rfl, z2r, List.map_cons, List.map_nil, z1v]
    refine z1t 1000 rfl ?_
    repeat' (first | (apply z0e; (first | refine z11 rfl (by decide) ?_ | (apply z0a; (refine z00 (z14 rfl rfl) rfl rfl (by decide) ?_)) | (apply z1f; (refine z00 (z1b (u := rx5 op mn mx rs ks) rfl (by omega) rfl rfl) rfl rfl (by decide) ?_)) | (apply z1e; (refine z00 (z8y rfl) rfl rfl (by decide) ?_)) | (apply z05; (refine z06 rfl rfl rfl rfl rfl rfl ?_)))) | (apply z0b; (first | refine z10 ?_ | apply z0d | refine z2f rfl rfl (by decide) ?_)) | (apply z0c; (first | apply z0f | apply z01 | refine z0r rfl ?_ | refine z0h rfl ?_ | refine z0p rfl ?_)))
    all_goals try (exfalso; omega)
    all_goals ((repeat rw [z0i]); exact z0g Tryz.func34 _ (z1n rfl rfl rfl rfl rfl rfl) ⟨rfl, rfl⟩)
  · rw [zeo h1]
    have hFl := z6p 2 ps
    have hFl2 := z3k (ps.flatMap (flat 2))
    obtain ⟨F, hF⟩ : ∃ F, ps.flatMap (flat 2) = F := ⟨_, rfl⟩
    rw [hF] at hFl hFl2 ⊢
    refine z1t 1000 rfl ?_
    repeat' (first | (apply z0e; (first | refine z11 rfl (by decide) ?_ | (apply z1e; (refine z00 (z1q rfl) rfl rfl (by decide) ?_)) | (apply z05; (refine z06 rfl rfl rfl rfl rfl rfl ?_)) | (apply z0n; (refine z0k (z0l rfl rfl (by decide)) ?_)) | (apply z0y; (refine z0x rfl rfl rfl rfl rfl rfl rfl (by decide) ?_)))) | (apply z0b; (first | refine z10 ?_ | apply z0d | refine z2f rfl rfl (by decide) ?_)) | (apply z0c; (first | apply z0f | apply z01 | refine z0h rfl ?_ | apply z09 | apply z03 | refine z1i rfl (fun _ => ?_) (fun _ => ?_) | refine z0p rfl ?_)))
    all_goals try (exfalso; omega)
    all_goals refine z0s (tm' := [(2, .ptr (0, 2) 0), (5, .ptr (0, 5) 0), (34, .d (.slice (ps.map rxc))), (35, I .i64 ps.length), (36, I .i64 ((0 : Nat) : Int))]) (hp' := [(5, .box [.d (z48 2), .d (z48 0), .d (z48 0), .d (.lit z2o), .d (.lit z2o)]), (2, .box (z3y [Value.int .i64 0, Value.int .i64 0, Value.int .i64 0, z2o, z2o]))]) ?_ rfl rfl
    all_goals refine z4v 5 4 1001 25 5 rfl rfl rfl rfl ?_
    refine z1x ?_
    refine z0s (z2u (fun q : Nat × List Rx => ⟨65, [(2, .ptr (0, 2) 0), (5, .ptr (0, 5) 0), (34, .d (.slice (ps.map rxc))), (35, I .i64 ps.length), (36, I .i64 (q.1 : Nat))], [(5, .box [.d (z48 2), .d (z48 0), .d (z48 0), .d (.lit z2o), .ref (0, 1001)]), (1001, .row 25 5 (q.2.map rxc)), (2, .box (z3y [Value.int .i64 0, Value.int .i64 0, Value.int .i64 0, z2o, z2o]))], upd H (e0, X) BB⟩)
     (fun q => q.1 ≤ ps.length ∧ q.2 ++ (ps.drop q.1).flatMap (flat 2) = F) (fun q => ps.length - q.1) ?_ (0, []) ⟨Nat.zero_le _, hF⟩) rfl rfl
    rintro ⟨k, K⟩ ⟨k1, k2⟩ ihk
    simp only at k1 k2 ihk ⊢
    have hKl := congrArg List.length k2
    rw [List.length_append] at hKl
    by_cases hlt : k < ps.length
    · obtain ⟨p, hp⟩ : ∃ p, ps[k]? = some p := ⟨_, List.getElem?_eq_getElem hlt⟩
      rw [drop_cons hp, List.flatMap_cons] at k2 hKl
      rw [List.length_append] at hKl
      have ihk' := ihk (k + 1, K ++ flat 2 p) ⟨by simp only; omega, by simp only; rw [List.append_assoc]; exact k2⟩ (by simp only; omega)
      obtain ⟨op, mn, mx, rs, ks⟩ := p
      by_cases h2 : op = 2
      · have hf2 : flat 2 (Rx.mk op mn mx rs ks) = ks := by simp [flat, Rx.op, Rx.ks, h2]
        rw [hf2] at ihk' hKl
        subst h2
        simp only at ihk'
        repeat' (first | (apply z0e; (first | refine z11 rfl (by decide) ?_ | (apply z0a; (first | refine z00 (z0u rfl rfl rfl rfl) rfl rfl (by decide) ?_ | refine z00 (z14 rfl rfl) rfl rfl (by decide) ?_)) | (apply z07; (refine z00 (z04 rfl rfl) rfl rfl (by decide) ?_)) | (apply z1f; (refine z00 (z1b (ys := ps.map rxc) rfl (by omega) (z3p hp) rfl) rfl rfl (by decide) ?_)) | (apply z13; (refine z00 (z19 (z1o (by omega) (by omega))) rfl rfl (by decide) ?_)) | (apply z1e; (first | refine z68 (g := rxc) rfl rfl rfl rfl rfl z2t rfl rfl (by decide) (by omega) ?_ | refine z00 (z1y rfl) rfl rfl (by decide) ?_)) | (apply z05; (refine z06 rfl rfl rfl rfl rfl rfl ?_)) | (apply z0n; (refine z0k (z0l rfl rfl (by decide)) ?_)))) | (apply z0b; (first | refine z10 ?_ | apply z0d)) | (apply z0c; (first | apply z0f | apply z01 | refine z0r rfl ?_ | apply z09 | apply z03 | apply z08 | refine z1i rfl (fun _ => ?_) (fun _ => ?_) | refine z0p rfl ?_)))
        all_goals try (exfalso; omega)
        all_goals refine z38 47 1001 rfl rfl ?_
        all_goals exact z0s ihk' rfl rfl
      · have hf2 : flat 2 (Rx.mk op mn mx rs ks) = [Rx.mk op mn mx rs ks] := by simp [flat, Rx.op, h2]
        rw [hf2] at ihk' hKl
        simp only [List.length_singleton] at ihk' hKl
        repeat' (first | (apply z0e; (first | refine z11 rfl (by decide) ?_ | (apply z0a; (first | refine z00 (z0u rfl rfl rfl rfl) rfl rfl (by decide) ?_ | refine z00 (z14 rfl rfl) rfl rfl (by decide) ?_ | refine z00 (z15 rfl rfl rfl rfl) rfl rfl (by decide) ?_)) | (apply z07; (refine z00 (z04 rfl rfl) rfl rfl (by decide) ?_)) | (apply z1f; (refine z00 (z1b (ys := ps.map rxc) rfl (by omega) (z3p hp) rfl) rfl rfl (by decide) ?_)) | (apply z13; (refine z00 (z19 (z1o (by omega) (by omega))) rfl rfl (by decide) ?_)) | (apply z1e; (first | refine z2d (g := rxc) rfl rfl (Rx.mk op mn mx rs ks) (by rw [z1v]; rfl) rfl rfl rfl (z2t _) rfl rfl (by decide) (by omega) ?_ | refine z00 (z1y rfl) rfl rfl (by decide) ?_)) | (apply z05; (refine z06 rfl rfl rfl rfl rfl rfl ?_)) | (apply z0n; (refine z0k (z0l rfl rfl (by decide)) ?_)) | (apply z27; (refine z29 rfl rfl rfl rfl rfl rfl rfl rfl (by decide) ?_)))) | (apply z0b; (first | refine z10 ?_ | apply z0d)) | (apply z0c; (first | apply z0f | apply z01 | apply z09 | apply z03 | apply z08 | refine z1i rfl (fun _ => ?_) (fun _ => ?_) | refine z0p rfl ?_)))
        all_goals try (exfalso; omega)
        all_goals refine z38 53 1001 rfl rfl ?_
        all_goals exact z0s ihk' rfl rfl
    · obtain rfl : k = ps.length := by omega
      rw [List.drop_length, List.flatMap_nil, List.append_nil] at k2
      subst k2
      clear ihk
      refine z1t 1001 rfl ?_
      by_cases hk1 : K.length = 1
      · obtain ⟨x, rfl⟩ := List.length_eq_one_iff.1 hk1
        obtain ⟨op, mn, mx, rs, ks⟩ := x
        rw [show fin 2 [Rx.mk op mn mx rs ks] = Rx.mk op mn mx rs ks from rfl, z2r]
        simp only [List.map_cons, List.map_nil, z1v]
        repeat' (first | (apply z0e; (first | refine z11 rfl (by decide) ?_ | (apply z0a; (first | refine z00 (z0u rfl rfl rfl rfl) rfl rfl (by decide) ?_ | refine z00 (z14 rfl rfl) rfl rfl (by decide) ?_)) | (apply z07; (refine z00 (z04 rfl rfl) rfl rfl (by decide) ?_)) | (apply z1f; (refine z00 (z1b (u := rx5 op mn mx rs ks) rfl (by omega) rfl rfl) rfl rfl (by decide) ?_)) | (apply z1e; (refine z00 (z8y rfl) rfl rfl (by decide) ?_)) | (apply z05; (refine z06 rfl rfl rfl rfl rfl rfl ?_)))) | (apply z0b; (first | refine z10 ?_ | apply z0d)) | (apply z0c; (first | apply z0f | apply z01 | refine z0r rfl ?_ | apply z09 | apply z03 | refine z1i rfl (fun _ => ?_) (fun _ => ?_) | refine z0p rfl ?_)))
        all_goals try (exfalso; omega)
        all_goals ((repeat rw [z0i]); exact z0g Tryz.func34 _ (z1n rfl rfl rfl rfl rfl rfl) ⟨rfl, rfl⟩)
      · rw [z90 hk1, z2r]
        repeat' (first | (apply z0e; (first | refine z11 rfl (by decide) ?_ | (apply z0a; (first | refine z00 (z0u rfl rfl rfl rfl) rfl rfl (by decide) ?_ | refine z00 (z15 rfl rfl rfl rfl) rfl rfl (by decide) ?_)) | (apply z07; (refine z00 (z04 rfl rfl) rfl rfl (by decide) ?_)) | (apply z1e; (refine z00 (z1q rfl) rfl rfl (by decide) ?_)) | (apply z05; (refine z06 rfl rfl rfl rfl rfl rfl ?_)))) | (apply z0b; (first | refine z10 ?_ | apply z0d)) | (apply z0c; (first | apply z0f | apply z01 | apply z09 | apply z03 | refine z1i rfl (fun _ => ?_) (fun _ => ?_) | refine z0p rfl ?_)))
        all_goals try (exfalso; (try simp only [List.length_map] at *); omega)
        all_goals ((repeat rw [z0i]); exact z0g Tryz.func34 _ (z1n rfl rfl rfl rfl rfl rfl) ⟨rfl, rfl⟩)
 | ok r =>
  obtain ⟨j, hj, rfl, i2, i3⟩ := i1
  cases m with
  | zero => rw [rC] at i2; exact absurd i2.symm hne
  | succ m =>
  rw [rC] at i2
  have hrg := nxr hu j
  simp only [nxS]
  by_cases hend : nx (us.drop j) < 0 ∨ nx (us.drop j) = 124 ∨ nx (us.drop j) = 41
  · rw [if_pos hend] at i2
    have hT := i2.symm
    have hsz : szL ps ≤ 2 * us.length + 1 := by omega
    rw [hT, bkR, rsR]
    generalize bkS s us qs (Sr.ok (us.drop j)) = BB at *
    generalize nx (us.drop j) = c at *
    rcases hend with hend | rfl | rfl
    · skip
      clear ih
      have hll := z3k ps
      by_cases h1 : ps.length = 1
      · obtain ⟨x, rfl⟩ := List.length_eq_one_iff.1 h1
        obtain ⟨op, mn, mx, rs, ks⟩ := x
        rw [show zhq [Rx.mk op mn mx rs ks] = Rx.mk op mn mx rs ks from rfl, z2r, List.map_cons, List.map_nil, z1v]
        refine z1t 1000 rfl ?_
        repeat' (first | (apply z0e; (first | refine z11 rfl (by decide) ?_ | (apply z0a; (refine z00 (z14 rfl rfl) rfl rfl (by decide) ?_)) | (apply z1f; (refine z00 (z1b (u := rx5 op mn mx rs ks) rfl (by omega) rfl rfl) rfl rfl (by decide) ?_)) | (apply z1e; (refine z00 (z8y rfl) rfl rfl (by decide) ?_)) | (apply z05; (refine z06 rfl rfl rfl rfl rfl rfl ?_)))) | (apply z0b; (first | refine z10 ?_ | apply z0d | refine z2f rfl rfl (by decide) ?_ | refine z16 rfl rfl (fun _ => ?_) (fun _ => ?_) | refine z2s rfl rfl (fun _ => ?_) (fun _ => ?_))) | (apply z0c; (first | apply z0f | apply z01 | refine z0r rfl ?_ | refine z0h rfl ?_ | apply z09 | apply z03 | refine z2i rfl (fun _ => ?_) (fun _ => ?_) | refine z0p rfl ?_)))
        all_goals try (exfalso; omega)
        all_goals ((repeat rw [z0i]); exact z0g Tryz.func34 _ (z1n rfl rfl rfl rfl rfl rfl) ⟨rfl, rfl⟩)
      · rw [zeo h1]
        have hFl := z6p 2 ps
        have hFl2 := z3k (ps.flatMap (flat 2))
        obtain ⟨F, hF⟩ : ∃ F, ps.flatMap (flat 2) = F := ⟨_, rfl⟩
        rw [hF] at hFl hFl2 ⊢
        refine z1t 1000 rfl ?_
        repeat' (first | (apply z0e; (first | refine z11 rfl (by decide) ?_ | (apply z1e; (refine z00 (z1q rfl) rfl rfl (by decide) ?_)) | (apply z05; (refine z06 rfl rfl rfl rfl rfl rfl ?_)) | (apply z0n; (refine z0k (z0l rfl rfl (by decide)) ?_)) | (apply z0y; (refine z0x rfl rfl rfl rfl rfl rfl rfl (by decide) ?_)))) | (apply z0b; (first | refine z10 ?_ | apply z0d | refine z2f rfl rfl (by decide) ?_ | refine z16 rfl rfl (fun _ => ?_) (fun _ => ?_) | refine z2s rfl rfl (fun _ => ?_) (fun _ => ?_))) | (apply z0c; (first | apply z0f | apply z01 | refine z0h rfl ?_ | apply z09 | apply z03 | refine z1i rfl (fun _ => ?_) (fun _ => ?_) | refine z2i rfl (fun _ => ?_) (fun _ => ?_) | refine z0p rfl ?_)))
        all_goals try (exfalso; omega)
        all_goals refine z0s (tm' := [(2, .ptr (0, 2) 0), (5, .ptr (0, 5) 0), (34, .d (.slice (ps.map rxc))), (35, I .i64 ps.length), (36, I .i64 ((0 : Nat) : Int))]) (hp' := [(5, .box [.d (z48 2), .d (z48 0), .d (z48 0), .d (.lit z2o), .d (.lit z2o)]), (2, .box (z3y [Value.int .i64 0, Value.int .i64 0, Value.int .i64 0, z2o, z2o]))]) ?_ rfl rfl
        all_goals refine z4v 5 4 1001 25 5 rfl rfl rfl rfl ?_
        refine z1x ?_
        refine z0s (z2u (fun q : Nat × List Rx => ⟨65, [(2, .ptr (0, 2) 0), (5, .ptr (0, 5) 0), (34, .d (.slice (ps.map rxc))), (35, I .i64 ps.length), (36, I .i64 (q.1 : Nat))], [(5, .box [.d (z48 2), .d (z48 0), .d (z48 0), .d (.lit z2o), .ref (0, 1001)]), (1001, .row 25 5 (q.2.map rxc)), (2, .box (z3y [Value.int .i64 0, Value.int .i64 0, Value.int .i64 0, z2o, z2o]))], upd H (e0, X) BB⟩)
         (fun q => q.1 ≤ ps.length ∧ q.2 ++ (ps.drop q.1).flatMap (flat 2) = F) (fun q => ps.length - q.1) ?_ (0, []) ⟨Nat.zero_le _, hF⟩) rfl rfl
        rintro ⟨k, K⟩ ⟨k1, k2⟩ ihk
        simp only at k1 k2 ihk ⊢
        have hKl := congrArg List.length k2
        rw [List.length_append] at hKl
        by_cases hlt : k < ps.length
        · obtain ⟨p, hp⟩ : ∃ p, ps[k]? = some p := ⟨_, List.getElem?_eq_getElem hlt⟩
          rw [drop_cons hp, List.flatMap_cons] at k2 hKl
          rw [List.length_append] at hKl
          have ihk' := ihk (k + 1, K ++ flat 2 p) ⟨by simp only; omega, by simp only; rw [List.append_assoc]; exact k2⟩ (by simp only; omega)
          obtain ⟨op, mn, mx, rs, ks⟩ := p
          by_cases h2 : op = 2
          · have hf2 : flat 2 (Rx.mk op mn mx rs ks) = ks := by simp [flat, Rx.op, Rx.ks, h2]
            rw [hf2] at ihk' hKl
            subst h2
            simp only at ihk'
            repeat' (first | (apply z0e; (first | refine z11 rfl (by decide) ?_ | (apply z0a; (first | refine z00 (z0u rfl rfl rfl rfl) rfl rfl (by decide) ?_ | refine z00 (z14 rfl rfl) rfl rfl (by decide) ?_)) | (apply z07; (refine z00 (z04 rfl rfl) rfl rfl (by decide) ?_)) | (apply z1f; (refine z00 (z1b (ys := ps.map rxc) rfl (by omega) (z3p hp) rfl) rfl rfl (by decide) ?_)) | (apply z13; (refine z00 (z19 (z1o (by omega) (by omega))) rfl rfl (by decide) ?_)) | (apply z1e; (first | refine z68 (g := rxc) rfl rfl rfl rfl rfl z2t rfl rfl (by decide) (by omega) ?_ | refine z00 (z1y rfl) rfl rfl (by decide) ?_)) | (apply z05; (refine z06 rfl rfl rfl rfl rfl rfl ?_)) | (apply z0n; (refine z0k (z0l rfl rfl (by decide)) ?_)))) | (apply z0b; (first | refine z10 ?_ | apply z0d)) | (apply z0c; (first | apply z0f | apply z01 | refine z0r rfl ?_ | apply z09 | apply z03 | apply z08 | refine z1i rfl (fun _ => ?_) (fun _ => ?_) | refine z0p rfl ?_)))
            all_goals try (exfalso; omega)
            all_goals refine z38 47 1001 rfl rfl ?_
            all_goals exact z0s ihk' rfl rfl
          · have hf2 : flat 2 (Rx.mk op mn mx rs ks) = [Rx.mk op mn mx rs ks] := by simp [flat, Rx.op, h2]
            rw [hf2] at ihk' hKl
            simp only [List.length_singleton] at ihk' hKl
            repeat' (first | (apply z0e; (first | refine z11 rfl (by decide) ?_ | (apply z0a; (first | refine z00 (z0u rfl rfl rfl rfl) rfl rfl (by decide) ?_ | refine z00 (z14 rfl rfl) rfl rfl (by decide) ?_ | refine z00 (z15 rfl rfl rfl rfl) rfl rfl (by decide) ?_)) | (apply z07; (refine z00 (z04 rfl rfl) rfl rfl (by decide) ?_)) | (apply z1f; (refine z00 (z1b (ys := ps.map rxc) rfl (by omega) (z3p hp) rfl) rfl rfl (by decide) ?_)) | (apply z13; (refine z00 (z19 (z1o (by omega) (by omega))) rfl rfl (by decide) ?_)) | (apply z1e; (first | refine z2d (g := rxc) rfl rfl (Rx.mk op mn mx rs ks) (by rw [z1v]; rfl) rfl rfl rfl (z2t _) rfl rfl (by decide) (by omega) ?_ | refine z00 (z1y rfl) rfl rfl (by decide) ?_)) | (apply z05; (refine z06 rfl rfl rfl rfl rfl rfl ?_)) | (apply z0n; (refine z0k (z0l rfl rfl (by decide)) ?_)) | (apply z27; (refine z29 rfl rfl rfl rfl rfl rfl rfl rfl (by decide) ?_)))) | (apply z0b; (first | refine z10 ?_ | apply z0d)) | (apply z0c; (first | apply z0f | apply z01 | apply z09 | apply z03 | apply z08 | refine z1i rfl (fun _ => ?_) (fun _ => ?_) | refine z0p rfl ?_)))
            all_goals try (exfalso; omega)
            all_goals refine z38 53 1001 rfl rfl ?_
            all_goals exact z0s ihk' rfl rfl
        · obtain rfl : k = ps.length := by omega
          rw [List.drop_length, List.flatMap_nil, List.append_nil] at k2
          subst k2
          clear ihk
          refine z1t 1001 rfl ?_
          by_cases hk1 : K.length = 1
          · obtain ⟨x, rfl⟩ := List.length_eq_one_iff.1 hk1
            obtain ⟨op, mn, mx, rs, ks⟩ := x
            rw [show fin 2 [Rx.mk op mn mx rs ks] = Rx.mk op mn mx rs ks from rfl, z2r]
            simp only [List.map_cons, List.map_nil, z1v]
            repeat' (first | (apply z0e; (first | refine z11 rfl (by decide) ?_ | (apply z0a; (first | refine z00 (z0u rfl rfl rfl rfl) rfl rfl (by decide) ?_ | refine z00 (z14 rfl rfl) rfl rfl (by decide) ?_)) | (apply z07; (refine z00 (z04 rfl rfl) rfl rfl (by decide) ?_)) | (apply z1f; (refine z00 (z1b (u := rx5 op mn mx rs ks) rfl (by omega) rfl rfl) rfl rfl (by decide) ?_)) | (apply z1e; (refine z00 (z8y rfl) rfl rfl (by decide) ?_)) | (apply z05; (refine z06 rfl rfl rfl rfl rfl rfl ?_)))) | (apply z0b; (first | refine z10 ?_ | apply z0d)) | (apply z0c; (first | apply z0f | apply z01 | refine z0r rfl ?_ | apply z09 | apply z03 | refine z1i rfl (fun _ => ?_) (fun _ => ?_) | refine z0p rfl ?_)))
            all_goals try (exfalso; omega)
            all_goals ((repeat rw [z0i]); exact z0g Tryz.func34 _ (z1n rfl rfl rfl rfl rfl rfl) ⟨rfl, rfl⟩)
          · rw [z90 hk1, z2r]
            repeat' (first | (apply z0e; (first | refine z11 rfl (by decide) ?_ | (apply z0a; (first | refine z00 (z0u rfl rfl rfl rfl) rfl rfl (by decide) ?_ | refine z00 (z15 rfl rfl rfl rfl) rfl rfl (by decide) ?_)) | (apply z07; (refine z00 (z04 rfl rfl) rfl rfl (by decide) ?_)) | (apply z1e; (refine z00 (z1q rfl) rfl rfl (by decide) ?_)) | (apply z05; (refine z06 rfl rfl rfl rfl rfl rfl ?_)))) | (apply z0b; (first | refine z10 ?_ | apply z0d)) | (apply z0c; (first | apply z0f | apply z01 | apply z09 | apply z03 | refine z1i rfl (fun _ => ?_) (fun _ => ?_) | refine z0p rfl ?_)))
            all_goals try (exfalso; (try simp only [List.length_map] at *); omega)
            all_goals ((repeat rw [z0i]); exact z0g Tryz.func34 _ (z1n rfl rfl rfl rfl rfl rfl) ⟨rfl, rfl⟩)
    · skip
      clear ih
      have hll := z3k ps
      by_cases h1 : ps.length = 1
      · obtain ⟨x, rfl⟩ := List.length_eq_one_iff.1 h1
        obtain ⟨op, mn, mx, rs, ks⟩ := x
        rw [show zhq [Rx.mk op mn mx rs ks] = Rx.mk op mn mx rs ks from rfl, z2r, List.map_cons, List.map_nil, z1v]
        refine z1t 1000 rfl ?_
        repeat' (first | (apply z0e; (first | refine z11 rfl (by decide) ?_ | (apply z0a; (refine z00 (z14 rfl rfl) rfl rfl (by decide) ?_)) | (apply z1f; (refine z00 (z1b (u := rx5 op mn mx rs ks) rfl (by omega) rfl rfl) rfl rfl (by decide) ?_)) | (apply z1e; (refine z00 (z8y rfl) rfl rfl (by decide) ?_)) | (apply z05; (refine z06 rfl rfl rfl rfl rfl rfl ?_)))) | (apply z0b; (first | refine z10 ?_ | apply z0d | refine z2f rfl rfl (by decide) ?_)) | (apply z0c; (first | apply z0f | apply z01 | refine z0r rfl ?_ | refine z0h rfl ?_ | refine z0p rfl ?_)))
        all_goals try (exfalso; omega)
        all_goals ((repeat rw [z0i]); exact z0g Tryz.func34 _ (z1n rfl rfl rfl rfl rfl rfl) ⟨rfl, rfl⟩)
      · rw [zeo h1]
        have hFl := z6p 2 ps
        have hFl2 := z3k (ps.flatMap (flat 2))
        obtain ⟨F, hF⟩ : ∃ F, ps.flatMap (flat 2) = F := ⟨_, rfl⟩
        rw [hF] at hFl hFl2 ⊢
        refine z1t 1000 rfl ?_
        repeat' (first | (apply z0e; (first | refine z11 rfl (by decide) ?_ | (apply z1e; (refine z00 (z1q rfl) rfl rfl (by decide) ?_)) | (apply z05; (refine z06 rfl rfl rfl rfl rfl rfl ?_)) | (apply z0n; (refine z0k (z0l rfl rfl (by decide)) ?_)) | (apply z0y; (refine z0x rfl rfl rfl rfl rfl rfl rfl (by decide) ?_)))) | (apply z0b; (first | refine z10 ?_ | apply z0d | refine z2f rfl rfl (by decide) ?_)) | (apply z0c; (first | apply z0f | apply z01 | refine z0h rfl ?_ | apply z09 | apply z03 | refine z1i rfl (fun _ => ?_) (fun _ => ?_) | refine z0p rfl ?_)))
        all_goals try (exfalso; omega)
        all_goals refine z0s (tm' := [(2, .ptr (0, 2) 0), (5, .ptr (0, 5) 0), (34, .d (.slice (ps.map rxc))), (35, I .i64 ps.length), (36, I .i64 ((0 : Nat) : Int))]) (hp' := [(5, .box [.d (z48 2), .d (z48 0), .d (z48 0), .d (.lit z2o), .d (.lit z2o)]), (2, .box (z3y [Value.int .i64 0, Value.int .i64 0, Value.int .i64 0, z2o, z2o]))]) ?_ rfl rfl
        all_goals refine z4v 5 4 1001 25 5 rfl rfl rfl rfl ?_
        refine z1x ?_
        refine z0s (z2u (fun q : Nat × List Rx => ⟨65, [(2, .ptr (0, 2) 0), (5, .ptr (0, 5) 0), (34, .d (.slice (ps.map rxc))), (35, I .i64 ps.length), (36, I .i64 (q.1 : Nat))], [(5, .box [.d (z48 2), .d (z48 0), .d (z48 0), .d (.lit z2o), .ref (0, 1001)]), (1001, .row 25 5 (q.2.map rxc)), (2, .box (z3y [Value.int .i64 0, Value.int .i64 0, Value.int .i64 0, z2o, z2o]))], upd H (e0, X) BB⟩)
         (fun q => q.1 ≤ ps.length ∧ q.2 ++ (ps.drop q.1).flatMap (flat 2) = F) (fun q => ps.length - q.1) ?_ (0, []) ⟨Nat.zero_le _, hF⟩) rfl rfl
        rintro ⟨k, K⟩ ⟨k1, k2⟩ ihk
        simp only at k1 k2 ihk ⊢
        have hKl := congrArg List.length k2
        rw [List.length_append] at hKl
        by_cases hlt : k < ps.length
        · obtain ⟨p, hp⟩ : ∃ p, ps[k]? = some p := ⟨_, List.getElem?_eq_getElem hlt⟩
          rw [drop_cons hp, List.flatMap_cons] at k2 hKl
          rw [List.length_append] at hKl
          have ihk' := ihk (k + 1, K ++ flat 2 p) ⟨by simp only; omega, by simp only; rw [List.append_assoc]; exact k2⟩ (by simp only; omega)
          obtain ⟨op, mn, mx, rs, ks⟩ := p
          by_cases h2 : op = 2
          · have hf2 : flat 2 (Rx.mk op mn mx rs ks) = ks := by simp [flat, Rx.op, Rx.ks, h2]
            rw [hf2] at ihk' hKl
            subst h2
            simp only at ihk'
            repeat' (first | (apply z0e; (first | refine z11 rfl (by decide) ?_ | (apply z0a; (first | refine z00 (z0u rfl rfl rfl rfl) rfl rfl (by decide) ?_ | refine z00 (z14 rfl rfl) rfl rfl (by decide) ?_)) | (apply z07; (refine z00 (z04 rfl rfl) rfl rfl (by decide) ?_)) | (apply z1f; (refine z00 (z1b (ys := ps.map rxc) rfl (by omega) (z3p hp) rfl) rfl rfl (by decide) ?_)) | (apply z13; (refine z00 (z19 (z1o (by omega) (by omega))) rfl rfl (by decide) ?_)) | (apply z1e; (first | refine z68 (g := rxc) rfl rfl rfl rfl rfl z2t rfl rfl (by decide) (by omega) ?_ | refine z00 (z1y rfl) rfl rfl (by decide) ?_)) | (apply z05; (refine z06 rfl rfl rfl rfl rfl rfl ?_)) | (apply z0n; (refine z0k (z0l rfl rfl (by decide)) ?_)))) | (apply z0b; (first | refine z10 ?_ | apply z0d)) | (apply z0c; (first | apply z0f | apply z01 | refine z0r rfl ?_ | apply z09 | apply z03 | apply z08 | refine z1i rfl (fun _ => ?_) (fun _ => ?_) | refine z0p rfl ?_)))
            all_goals try (exfalso; omega)
            all_goals refine z38 47 1001 rfl rfl ?_
            all_goals exact z0s ihk' rfl rfl
          · have hf2 : flat 2 (Rx.mk op mn mx rs ks) = [Rx.mk op mn mx rs ks] := by simp [flat, Rx.op, h2]
            rw [hf2] at ihk' hKl
            simp only [List.length_singleton] at ihk' hKl
            repeat' (first | (apply z0e; (first | refine z11 rfl (by decide) ?_ | (apply z0a; (first | refine z00 (z0u rfl rfl rfl rfl) rfl rfl (by decide) ?_ | refine z00 (z14 rfl rfl) rfl rfl (by decide) ?_ | refine z00 (z15 rfl rfl rfl rfl) rfl rfl (by decide) ?_)) | (apply z07; (refine z00 (z04 rfl rfl) rfl rfl (by decide) ?_)) | (apply z1f; (refine z00 (z1b (ys := ps.map rxc) rfl (by omega) (z3p hp) rfl) rfl rfl (by decide) ?_)) | (apply z13; (refine z00 (z19 (z1o (by omega) (by omega))) rfl rfl (by decide) ?_)) | (apply z1e; (first | refine z2d (g := rxc) rfl rfl (Rx.mk op mn mx rs ks) (by rw [z1v]; rfl) rfl rfl rfl (z2t _) rfl rfl (by decide) (by omega) ?_ | refine z00 (z1y rfl) rfl rfl (by decide) ?_)) | (apply z05; (refine z06 rfl rfl rfl rfl rfl rfl ?_)) | (apply z0n; (refine z0k (z0l rfl rfl (by decide)) ?_)) | (apply z27; (refine z29 rfl rfl rfl rfl rfl rfl rfl rfl (by decide) ?_)))) | (apply z0b; (first | refine z10 ?_ | apply z0d)) | (apply z0c; (first | apply z0f | apply z01 | apply z09 | apply z03 | apply z08 | refine z1i rfl (fun _ => ?_) (fun _ => ?_) | refine z0p rfl ?_)))
            all_goals try (exfalso; omega)
            all_goals refine z38 53 1001 rfl rfl ?_
            all_goals exact z0s ihk' rfl rfl
        · obtain rfl : k = ps.length := by omega
          rw [List.drop_length, List.flatMap_nil, List.append_nil] at k2
          subst k2
          clear ihk
          refine z1t 1001 rfl ?_
          by_cases hk1 : K.length = 1
          · obtain ⟨x, rfl⟩ := List.length_eq_one_iff.1 hk1
            obtain ⟨op, mn, mx, rs, ks⟩ := x
            rw [show fin 2 [Rx.mk op mn mx rs ks] = Rx.mk op mn mx rs ks from rfl, z2r]
            simp only [List.map_cons, List.map_nil, z1v]
            repeat' (first | (apply z0e; (first | refine z11 rfl (by decide) ?_ | (apply z0a; (first | refine z00 (z0u rfl rfl rfl rfl) rfl rfl (by decide) ?_ | refine z00 (z14 rfl rfl) rfl rfl (by decide) ?_)) | (apply z07; (refine z00 (z04 rfl rfl) rfl rfl (by decide) ?_)) | (apply z1f; (refine z00 (z1b (u := rx5 op mn mx rs ks) rfl (by omega) rfl rfl) rfl rfl (by decide) ?_)) | (apply z1e; (refine z00 (z8y rfl) rfl rfl (by decide) ?_)) | (apply z05; (refine z06 rfl rfl rfl rfl rfl rfl ?_)))) | (apply z0b; (first | refine z10 ?_ | apply z0d)) | (apply z0c; (first | apply z0f | apply z01 | refine z0r rfl ?_ | apply z09 | apply z03 | refine z1i rfl (fun _ => ?_) (fun _ => ?_) | refine z0p rfl ?_)))
            all_goals try (exfalso; omega)
            all_goals ((repeat rw [z0i]); exact z0g Tryz.func34 _ (z1n rfl rfl rfl rfl rfl rfl) ⟨rfl, rfl⟩)
          · rw [z90 hk1, z2r]
            repeat' (first | (apply z0e; (first | refine z11 rfl (by decide) ?_ | (apply z0a; (first | refine z00 (z0u rfl rfl rfl rfl) rfl rfl (by decide) ?_ | refine z00 (z15 rfl rfl rfl rfl) rfl rfl (by decide) ?_)) | (apply z07; (refine z00 (z04 rfl rfl) rfl rfl (by decide) ?_)) | (apply z1e; (refine z00 (z1q rfl) rfl rfl (by decide) ?_)) | (apply z05; (refine z06 rfl rfl rfl rfl rfl rfl ?_)))) | (apply z0b; (first | refine z10 ?_ | apply z0d)) | (apply z0c; (first | apply z0f | apply z01 | apply z09 | apply z03 | refine z1i rfl (fun _ => ?_) (fun _ => ?_) | refine z0p rfl ?_)))
            all_goals try (exfalso; (try simp only [List.length_map] at *); omega)
            all_goals ((repeat rw [z0i]); exact z0g Tryz.func34 _ (z1n rfl rfl rfl rfl rfl rfl) ⟨rfl, rfl⟩)
    · skip
      clear ih
      have hll := z3k ps
      by_cases h1 : ps.length = 1
      · obtain ⟨x, rfl⟩ := List.length_eq_one_iff.1 h1
        obtain ⟨op, mn, mx, rs, ks⟩ := x
        rw [show zhq [Rx.mk op mn mx rs ks] = Rx.mk op mn mx rs ks from rfl, z2r, List.map_cons, List.map_nil, z1v]
        refine z1t 1000 rfl ?_
        repeat' (first | (apply z0e; (first | refine z11 rfl (by decide) ?_ | (apply z0a; (refine z00 (z14 rfl rfl) rfl rfl (by decide) ?_)) | (apply z1f; (refine z00 (z1b (u := rx5 op mn mx rs ks) rfl (by omega) rfl rfl) rfl rfl (by decide) ?_)) | (apply z1e; (refine z00 (z8y rfl) rfl rfl (by decide) ?_)) | (apply z05; (refine z06 rfl rfl rfl rfl rfl rfl ?_)))) | (apply z0b; (first | refine z10 ?_ | apply z0d)) | (apply z0c; (first | apply z0f | apply z01 | refine z0r rfl ?_ | refine z0h rfl ?_ | refine z0p rfl ?_)))
        all_goals try (exfalso; omega)
        all_goals ((repeat rw [z0i]); exact z0g Tryz.func34 _ (z1n rfl rfl rfl rfl rfl rfl) ⟨rfl, rfl⟩)
      · rw [zeo h1]
        have hFl := z6p 2 ps
        have hFl2 := z3k (ps.flatMap (flat 2))
        obtain ⟨F, hF⟩ : ∃ F, ps.flatMap (flat 2) = F := ⟨_, rfl⟩
        rw [hF] at hFl hFl2 ⊢
        refine z1t 1000 rfl ?_
        repeat' (first | (apply z0e; (first | refine z11 rfl (by decide) ?_ | (apply z1e; (refine z00 (z1q rfl) rfl rfl (by decide) ?_)) | (apply z05; (refine z06 rfl rfl rfl rfl rfl rfl ?_)) | (apply z0n; (refine z0k (z0l rfl rfl (by decide)) ?_)) | (apply z0y; (refine z0x rfl rfl rfl rfl rfl rfl rfl (by decide) ?_)))) | (apply z0b; (first | refine z10 ?_ | apply z0d)) | (apply z0c; (first | apply z0f | apply z01 | refine z0h rfl ?_ | apply z09 | apply z03 | refine z1i rfl (fun _ => ?_) (fun _ => ?_) | refine z0p rfl ?_)))
        all_goals try (exfalso; omega)
        all_goals refine z0s (tm' := [(2, .ptr (0, 2) 0), (5, .ptr (0, 5) 0), (34, .d (.slice (ps.map rxc))), (35, I .i64 ps.length), (36, I .i64 ((0 : Nat) : Int))]) (hp' := [(5, .box [.d (z48 2), .d (z48 0), .d (z48 0), .d (.lit z2o), .d (.lit z2o)]), (2, .box (z3y [Value.int .i64 0, Value.int .i64 0, Value.int .i64 0, z2o, z2o]))]) ?_ rfl rfl
        all_goals refine z4v 5 4 1001 25 5 rfl rfl rfl rfl ?_
        refine z1x ?_
        refine z0s (z2u (fun q : Nat × List Rx => ⟨65, [(2, .ptr (0, 2) 0), (5, .ptr (0, 5) 0), (34, .d (.slice (ps.map rxc))), (35, I .i64 ps.length), (36, I .i64 (q.1 : Nat))], [(5, .box [.d (z48 2), .d (z48 0), .d (z48 0), .d (.lit z2o), .ref (0, 1001)]), (1001, .row 25 5 (q.2.map rxc)), (2, .box (z3y [Value.int .i64 0, Value.int .i64 0, Value.int .i64 0, z2o, z2o]))], upd H (e0, X) BB⟩)
         (fun q => q.1 ≤ ps.length ∧ q.2 ++ (ps.drop q.1).flatMap (flat 2) = F) (fun q => ps.length - q.1) ?_ (0, []) ⟨Nat.zero_le _, hF⟩) rfl rfl
        rintro ⟨k, K⟩ ⟨k1, k2⟩ ihk
        simp only at k1 k2 ihk ⊢
        have hKl := congrArg List.length k2
        rw [List.length_append] at hKl
        by_cases hlt : k < ps.length
        · obtain ⟨p, hp⟩ : ∃ p, ps[k]? = some p := ⟨_, List.getElem?_eq_getElem hlt⟩
          rw [drop_cons hp, List.flatMap_cons] at k2 hKl
          rw [List.length_append] at hKl
          have ihk' := ihk (k + 1, K ++ flat 2 p) ⟨by simp only; omega, by simp only; rw [List.append_assoc]; exact k2⟩ (by simp only; omega)
          obtain ⟨op, mn, mx, rs, ks⟩ := p
          by_cases h2 : op = 2
          · have hf2 : flat 2 (Rx.mk op mn mx rs ks) = ks := by simp [flat, Rx.op, Rx.ks, h2]
            rw [hf2] at ihk' hKl
            subst h2
            simp only at ihk'
            repeat' (first | (apply z0e; (first | refine z11 rfl (by decide) ?_ | (apply z0a; (first | refine z00 (z0u rfl rfl rfl rfl) rfl rfl (by decide) ?_ | refine z00 (z14 rfl rfl) rfl rfl (by decide) ?_)) | (apply z07; (refine z00 (z04 rfl rfl) rfl rfl (by decide) ?_)) | (apply z1f; (refine z00 (z1b (ys := ps.map rxc) rfl (by omega) (z3p hp) rfl) rfl rfl (by decide) ?_)) | (apply z13; (refine z00 (z19 (z1o (by omega) (by omega))) rfl rfl (by decide) ?_)) | (apply z1e; (first | refine z68 (g := rxc) rfl rfl rfl rfl rfl z2t rfl rfl (by decide) (by omega) ?_ | refine z00 (z1y rfl) rfl rfl (by decide) ?_)) | (apply z05; (refine z06 rfl rfl rfl rfl rfl rfl ?_)) | (apply z0n; (refine z0k (z0l rfl rfl (by decide)) ?_)))) | (apply z0b; (first | refine z10 ?_ | apply z0d)) | (apply z0c; (first | apply z0f | apply z01 | refine z0r rfl ?_ | apply z09 | apply z03 | apply z08 | refine z1i rfl (fun _ => ?_) (fun _ => ?_) | refine z0p rfl ?_)))
            all_goals try (exfalso; omega)
            all_goals refine z38 47 1001 rfl rfl ?_
            all_goals exact z0s ihk' rfl rfl
          · have hf2 : flat 2 (Rx.mk op mn mx rs ks) = [Rx.mk op mn mx rs ks] := by simp [flat, Rx.op, h2]
            rw [hf2] at ihk' hKl
            simp only [List.length_singleton] at ihk' hKl
            repeat' (first | (apply z0e; (first | refine z11 rfl (by decide) ?_ | (apply z0a; (first | refine z00 (z0u rfl rfl rfl rfl) rfl rfl (by decide) ?_ | refine z00 (z14 rfl rfl) rfl rfl (by decide) ?_ | refine z00 (z15 rfl rfl rfl rfl) rfl rfl (by decide) ?_)) | (apply z07; (refine z00 (z04 rfl rfl) rfl rfl (by decide) ?_)) | (apply z1f; (refine z00 (z1b (ys := ps.map rxc) rfl (by omega) (z3p hp) rfl) rfl rfl (by decide) ?_)) | (apply z13; (refine z00 (z19 (z1o (by omega) (by omega))) rfl rfl (by decide) ?_)) | (apply z1e; (first | refine z2d (g := rxc) rfl rfl (Rx.mk op mn mx rs ks) (by rw [z1v]; rfl) rfl rfl rfl (z2t _) rfl rfl (by decide) (by omega) ?_ | refine z00 (z1y rfl) rfl rfl (by decide) ?_)) | (apply z05; (refine z06 rfl rfl rfl rfl rfl rfl ?_)) | (apply z0n; (refine z0k (z0l rfl rfl (by decide)) ?_)) | (apply z27; (refine z29 rfl rfl rfl rfl rfl rfl rfl rfl (by decide) ?_)))) | (apply z0b; (first | refine z10 ?_ | apply z0d)) | (apply z0c; (first | apply z0f | apply z01 | apply z09 | apply z03 | apply z08 | refine z1i rfl (fun _ => ?_) (fun _ => ?_) | refine z0p rfl ?_)))
            all_goals try (exfalso; omega)
            all_goals refine z38 53 1001 rfl rfl ?_
            all_goals exact z0s ihk' rfl rfl
        · obtain rfl : k = ps.length := by omega
          rw [List.drop_length, List.flatMap_nil, List.append_nil] at k2
          subst k2
          clear ihk
          refine z1t 1001 rfl ?_
          by_cases hk1 : K.length = 1
          · obtain ⟨x, rfl⟩ := List.length_eq_one_iff.1 hk1
            obtain ⟨op, mn, mx, rs, ks⟩ := x
            rw [show fin 2 [Rx.mk op mn mx rs ks] = Rx.mk op mn mx rs ks from rfl, z2r]
            simp only [List.map_cons, List.map_nil, z1v]
            repeat' (first | (apply z0e; (first | refine z11 rfl (by decide) ?_ | (apply z0a; (first | refine z00 (z0u rfl rfl rfl rfl) rfl rfl (by decide) ?_ | refine z00 (z14 rfl rfl) rfl rfl (by decide) ?_)) | (apply z07; (refine z00 (z04 rfl rfl) rfl rfl (by decide) ?_)) | (apply z1f; (refine z00 (z1b (u := rx5 op mn mx rs ks) rfl (by omega) rfl rfl) rfl rfl (by decide) ?_)) | (apply z1e; (refine z00 (z8y rfl) rfl rfl (by decide) ?_)) | (apply z05; (refine z06 rfl rfl rfl rfl rfl rfl ?_)))) | (apply z0b; (first | refine z10 ?_ | apply z0d)) | (apply z0c; (first | apply z0f | apply z01 | refine z0r rfl ?_ | apply z09 | apply z03 | refine z1i rfl (fun _ => ?_) (fun _ => ?_) | refine z0p rfl ?_)))
            all_goals try (exfalso; omega)
            all_goals ((repeat rw [z0i]); exact z0g Tryz.func34 _ (z1n rfl rfl rfl rfl rfl rfl) ⟨rfl, rfl⟩)
          · rw [z90 hk1, z2r]
            repeat' (first | (apply z0e; (first | refine z11 rfl (by decide) ?_ | (apply z0a; (first | refine z00 (z0u rfl rfl rfl rfl) rfl rfl (by decide) ?_ | refine z00 (z15 rfl rfl rfl rfl) rfl rfl (by decide) ?_)) | (apply z07; (refine z00 (z04 rfl rfl) rfl rfl (by decide) ?_)) | (apply z1e; (refine z00 (z1q rfl) rfl rfl (by decide) ?_)) | (apply z05; (refine z06 rfl rfl rfl rfl rfl rfl ?_)))) | (apply z0b; (first | refine z10 ?_ | apply z0d)) | (apply z0c; (first | apply z0f | apply z01 | apply z09 | apply z03 | refine z1i rfl (fun _ => ?_) (fun _ => ?_) | refine z0p rfl ?_)))
            all_goals try (exfalso; (try simp only [List.length_map] at *); omega)
            all_goals ((repeat rw [z0i]); exact z0g Tryz.func34 _ (z1n rfl rfl rfl rfl rfl rfl) ⟨rfl, rfl⟩)
  · rw [if_neg hend] at i2
    have hr := hR m (by omega) j hj (e0 + 1) (fun h => hne (by rw [← i2, h]))
    have hsz := (zub m).2.2.1 (us.drop j)
    have hat := fun e r => zun (n := m) hj (e := e) (r := r)
    have hll := z3k ps
    cases hp : rR m (us.drop j) with
    | out => rw [hp] at i2; exact absurd i2.symm hne
    | res e t =>
     rw [hp] at i2 hr hsz
     simp only [hp] at hat
     have hJ : cJ us T m (ps ++ [e]) t := by
      rw [List.length_drop] at hsz
      cases t with
      | er y a c =>
       simp only [szB] at hsz
       exact ⟨i2.symm, by rw [z8g]; omega⟩
      | ok r =>
       obtain ⟨k, _, hk, rfl⟩ := hat e r rfl
       simp only [szB, List.length_drop] at hsz
       exact ⟨k, hk, rfl, i2, by rw [z8g]; omega⟩
     have ih' := ih (m, ps ++ [e], t) ⟨by simp only; omega, hJ⟩ (by simp only; omega)
     clear ih
     simp only [bkR, rsR] at hr
     rw [z3j hj]
     have hn : z2j Tryz.prog 35 [.ptr (e0 + 1, X) 0] [((e0 + 1, X), bkS s us qs t)] [] (I .i32 (nxS t)) := by
      cases t with
      | er y a c => exact zj2 (X := X) hu _ _ _ (e0 + 1)
      | ok r =>
       obtain ⟨k, hk, rfl, _, _⟩ := hJ
       rw [z3j hk]; exact z81 (X := X) hu k hk 0 0 (e0 + 1)
     simp only at ih'
     generalize bkS s us qs t = BB at *
     generalize nxS t = c2 at *
     generalize nx (us.drop j) = c at *
     obtain ⟨op, mn, mx, rs, ks⟩ := e
     rw [z2r] at hr
     repeat' (first | (apply z0e; (first | refine z11 rfl (by decide) ?_ | (apply z1e; (first | refine z2d (g := rxc) rfl rfl (Rx.mk op mn mx rs ks) (by rw [z1v]; rfl) rfl rfl rfl (z2t _) rfl rfl (by decide) (by omega) ?_ | refine z00 (z1y rfl) rfl rfl (by decide) ?_)) | (apply z0o; (first | refine z0m hn rfl (bk1 (m := (e0 + 1, X)) (z02 _ (e0, X) _)) (by decide) ?_ | refine z0v hr rfl (z02 _ (e0, X) _) z1k (by decide) ?_)) | (apply z05; (refine z06 rfl rfl rfl rfl rfl rfl ?_)) | (apply z0n; (refine z0k (z0l rfl rfl (by decide)) ?_)) | (apply z0y; (refine z0x rfl rfl rfl rfl rfl rfl rfl (by decide) ?_)) | (apply z27; (refine z29 rfl rfl rfl rfl rfl rfl rfl rfl (by decide) ?_)))) | (apply z0b; (first | refine z10 ?_ | apply z0d | refine z2f rfl rfl (by decide) ?_ | refine z16 rfl rfl (fun _ => ?_) (fun _ => ?_) | refine z2s rfl rfl (fun _ => ?_) (fun _ => ?_))) | (apply z0c; (first | apply z0f | apply z01 | refine z0h rfl ?_ | apply z09 | apply z03 | apply z08 | refine z1i rfl (fun _ => ?_) (fun _ => ?_) | refine z2i rfl (fun _ => ?_) (fun _ => ?_) | refine z0p rfl ?_)))
     all_goals try (exfalso; omega)
     all_goals ((repeat rw [z0i]); refine z38 26 1000 rfl rfl ?_; exact z0s ih' rfl rfl)
end
end Go.Proofs.YtjmbjgecfpggdaaGreatDoor
