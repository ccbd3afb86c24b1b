/- A part of the proof: Z11. -/
import Derived.Test.YtjmbjgecfpggdaaGreatDoorM10
set_option linter.all false
set_option linter.unusedVariables false
set_option linter.unusedSimpArgs false
namespace Go.Proofs.YtjmbjgecfpggdaaGreatDoor
open Go.Ab Go.Rx
set_option maxHeartbeats 20000000
set_option maxRecDepth 100000
attribute [local irreducible] Run Ops Op1 z2q Val Tr z1p z2j NF Rel z5b z5c z84
def zuj (m : Nat) (ps : List Rx) : Sr → Rs
 | .ok r => if nx r = 124 then rU m ps r.tail else .res (zjg ps) (.ok r)
 | .er y a c => .res (zjg ps) (.er y a c)
theorem zos {m : Nat} {ps : List Rx} {l : List U} {e : Rx} {t : Sr} (h : rC m [] l = .res e t) : rU (m + 1) ps l = zuj m (ps ++ [e]) t := by
 rw [rU, h]
 cases t <;> rfl
def uJ (us : List U) (T : Rs) (m : Nat) (ps : List Rx) : Sr → Prop
 | .ok r => ∃ j, j ≤ us.length ∧ r = us.drop j ∧ zuj m ps (.ok r) = T ∧ szL ps + 2 * (us.length - j) ≤ 2 * us.length + 1
 | .er y a c => T = .res (zjg ps) (.er y a c) ∧ szL ps ≤ 2 * us.length + 2
section
variable {s : ByteArray} {us : List U} {qs : List Uq} {X : Nat} (hu : Un5 s us qs)
include hu
theorem zo8 (N : Nat) (hC : ∀ m, m < N → KC s us qs X m) : KU s us qs X N := by
 intro i hi e0 hne
 refine z2k fun H hH => ?_
 have hX : H e0 X = some (rbx s qs i 0 0 false) := hH ((e0, X), rbx s qs i 0 0 false) (by simp)
 have hfw := hu.few
 refine z1c Tryz.func18 (by kernel_rfl) rfl (by simp) ?_
 dsimp only [Tryz.f18]
 cases N with
 | zero => rw [rU] at hne; exact absurd rfl hne
 | succ N =>
 have hc := hC N (by omega) i hi (e0 + 1) (fun h => hne (by rw [rU, h]))
 have hat := fun e r => zsf (n := N) hi (e := e) (r := r)
 have hsz := (zub N).2.1 [] (us.drop i)
 cases hp : rC N [] (us.drop i) with
 | out => rw [rU, hp] at hne; exact absurd rfl hne
 | res e t =>
 rw [zos hp] at hne ⊢
 rw [hp] at hc hsz
 simp only [hp] at hat
 obtain ⟨T, hT0⟩ : ∃ T, zuj N ([] ++ [e]) t = T := ⟨_, rfl⟩
 rw [hT0] at hne ⊢
 rw [List.nil_append] at hT0
 have hJ : uJ us T N [e] t := by
  rw [List.length_drop] at hsz
  cases t with
  | er y a c =>
   simp only [szB, szL] at hsz
   exact ⟨hT0.symm, by simp only [szL]; omega⟩
  | ok r =>
   obtain ⟨k, _, hk, rfl⟩ := hat e r rfl
   simp only [szB, List.length_drop, szL] at hsz
   exact ⟨k, hk, rfl, hT0, by simp only [szL]; omega⟩
 simp only [bkR, rsR] at hc
 obtain ⟨op, mn, mx, rs, ks⟩ := e
 rw [z2r] at hc
 generalize hBB : bkS s us qs t = BB at *
 repeat' (first | (apply z0e; (first | refine z11 rfl (by decide) ?_ | (apply z0o; (refine z0v hc rfl hX z1k (by decide) ?_)) | (apply z0n; (refine z0k (z0l rfl rfl (by decide)) ?_)) | (apply z27; (refine ztc (ys := [rx5 op mn mx rs ks]) rfl rfl rfl rfl rfl rfl rfl rfl rfl (by decide) ?_)))) | (apply z0b; (first | refine z10 ?_ | apply z0d)) | (apply z0c; (first | apply z0f | apply z01 | apply z03)))
 all_goals try (exfalso; omega)
 refine z38 9 1000 rfl rfl ?_
 refine z0s (tm' := [(0, .ptr (e0 + 1, X) 0), (2, .ptr (0, 2) 0), (3, .ref (0, 1000))]) (hp' := [(1000, .row 25 5 [rx5 op mn mx rs ks]), (2, .box (z3y [Value.int .i64 0, Value.int .i64 0, Value.int .i64 0, z2o, z2o]))]) ?_ rfl rfl
 rw [show [rx5 op mn mx rs ks] = [Rx.mk op mn mx rs ks].map rxc by rw [List.map_cons, List.map_nil, z1v]]
 rw [← hBB]
 clear hBB hc hat hsz hp hT0
 refine z1x ?_
 refine z0s (z2u (fun q : Nat × List Rx × Sr => ⟨55, [(0, .ptr (e0 + 1, X) 0), (2, .ptr (0, 2) 0), (3, .ref (0, 1000))], [(1000, .row 25 5 (q.2.1.map rxc)), (2, .box (z3y [Value.int .i64 0, Value.int .i64 0, Value.int .i64 0, z2o, z2o]))], upd H (e0, X) (bkS s us qs q.2.2)⟩)
  (fun q => q.1 ≤ N ∧ uJ us T q.1 q.2.1 q.2.2) (fun q => q.1) ?_ (N, [.mk op mn mx rs ks], t) ⟨Nat.le_refl _, hJ⟩) rfl rfl
 clear hJ t op mn mx rs ks
 rintro ⟨m, ps, t⟩ ⟨i0, i1⟩ ih
 simp only at i0 i1 ih ⊢
 have hn : z2j Tryz.prog 35 [.ptr (e0 + 1, X) 0] [((e0 + 1, X), bkS s us qs t)] [] (I .i32 (nxS t)) := by
  cases t with
  | er y a c => exact zj2 (X := X) hu _ _ _ (e0 + 1)
  | ok r =>
   obtain ⟨k, hk, rfl, _, _⟩ := i1
   rw [z3j hk]; exact z81 (X := X) hu k hk 0 0 (e0 + 1)
 cases t with
 | er y a c =>
  obtain ⟨hT, hsz⟩ := i1
  rw [nxS] at hn
  rw [hT, bkR, rsR]
  generalize bkS s us qs (Sr.er y a c) = BB at *
  clear ih
  have hll := z3k ps
  by_cases h1 : ps.length = 1
  · obtain ⟨x, rfl⟩ := List.length_eq_one_iff.1 h1
    obtain ⟨op, mn, mx, rs, ks⟩ := x
    rw [show zjg [Rx.mk op mn mx rs ks] = Rx.mk op mn mx rs ks from rfl, z2r, List.map_cons, List.map_nil, z1v]
    refine z1t 1000 rfl ?_
    repeat' (first | (apply z0e; (first | refine z11 rfl (by decide) ?_ | (apply z0a; (refine z00 (z14 rfl rfl) rfl rfl (by decide) ?_)) | (apply z1f; (refine z00 (z1b (u := rx5 op mn mx rs ks) rfl (by omega) rfl rfl) rfl rfl (by decide) ?_)) | (apply z1e; (refine z00 (z8y rfl) rfl rfl (by decide) ?_)) | (apply z0o; (refine z0m hn rfl (bk1 (m := (e0 + 1, X)) (z02 _ (e0, X) _)) (by decide) ?_)) | (apply z05; (refine z06 rfl rfl rfl rfl rfl rfl ?_)))) | (apply z0b; (first | refine z10 ?_ | apply z0d)) | (apply z0c; (first | apply z0f | apply z01 | refine z0r rfl ?_ | refine z0h rfl ?_ | refine z0p rfl ?_)))
    all_goals try (exfalso; omega)
    all_goals ((repeat rw [z0i]); exact z0g Tryz.func18 _ (z1n rfl rfl rfl rfl rfl rfl) ⟨rfl, rfl⟩)
  · rw [zlu h1]
    have hFl := z6p 3 ps
    have hFl2 := z3k (ps.flatMap (flat 3))
    obtain ⟨F, hF⟩ : ∃ F, ps.flatMap (flat 3) = F := ⟨_, rfl⟩
    rw [hF] at hFl hFl2 ⊢
    rw [z2r]
    refine z1t 1000 rfl ?_
    repeat' (first | (apply z0e; (first | refine z11 rfl (by decide) ?_ | (apply z1e; (refine z00 (z1q rfl) rfl rfl (by decide) ?_)) | (apply z0o; (refine z0m hn rfl (bk1 (m := (e0 + 1, X)) (z02 _ (e0, X) _)) (by decide) ?_)) | (apply z05; (refine z06 rfl rfl rfl rfl rfl rfl ?_)) | (apply z0n; (refine z0k (z0l rfl rfl (by decide)) ?_)) | (apply z0y; (refine z0x rfl rfl rfl rfl rfl rfl rfl (by decide) ?_)))) | (apply z0b; (first | refine z10 ?_ | apply z0d)) | (apply z0c; (first | apply z0f | apply z01 | refine z0h rfl ?_ | apply z09 | apply z03 | refine z1i rfl (fun _ => ?_) (fun _ => ?_) | refine z0p rfl ?_)))
    all_goals try (exfalso; omega)
    all_goals refine z0s (tm' := [(2, .ptr (0, 2) 0), (4, .ptr (0, 4) 0), (32, .d (.slice (ps.map rxc))), (33, I .i64 ps.length), (34, I .i64 ((0 : Nat) : Int))]) (hp' := [(4, .box [.d (z48 3), .d (z48 0), .d (z48 0), .d (.lit z2o), .d (.lit z2o)]), (2, .box (z3y [Value.int .i64 0, Value.int .i64 0, Value.int .i64 0, z2o, z2o]))]) ?_ rfl rfl
    all_goals refine z4v 4 4 1001 25 5 rfl rfl rfl rfl ?_
    refine z1x ?_
    refine z0s (z2u (fun q : Nat × List Rx => ⟨55, [(2, .ptr (0, 2) 0), (4, .ptr (0, 4) 0), (32, .d (.slice (ps.map rxc))), (33, I .i64 ps.length), (34, I .i64 (q.1 : Nat))], [(4, .box [.d (z48 3), .d (z48 0), .d (z48 0), .d (.lit z2o), .ref (0, 1001)]), (1001, .row 25 5 (q.2.map rxc)), (2, .box (z3y [Value.int .i64 0, Value.int .i64 0, Value.int .i64 0, z2o, z2o]))], upd H (e0, X) BB⟩)
     (fun q => q.1 ≤ ps.length ∧ q.2 ++ (ps.drop q.1).flatMap (flat 3) = F) (fun q => ps.length - q.1) ?_ (0, []) ⟨Nat.zero_le _, hF⟩) rfl rfl
    rintro ⟨k, K⟩ ⟨k1, k2⟩ ihk
    simp only at k1 k2 ihk ⊢
    have hKl := congrArg List.length k2
    rw [List.length_append] at hKl
    by_cases hlt : k < ps.length
    · obtain ⟨p, hp⟩ : ∃ p, ps[k]? = some p := ⟨_, List.getElem?_eq_getElem hlt⟩
      rw [drop_cons hp, List.flatMap_cons] at k2 hKl
      rw [List.length_append] at hKl
      have ihk' := ihk (k + 1, K ++ flat 3 p) ⟨by simp only; omega, by simp only; rw [List.append_assoc]; exact k2⟩ (by simp only; omega)
      obtain ⟨op, mn, mx, rs, ks⟩ := p
      by_cases h2 : op = 3
      · have hf2 : flat 3 (Rx.mk op mn mx rs ks) = ks := by simp [flat, Rx.op, Rx.ks, h2]
        rw [hf2] at ihk' hKl
        subst h2
        simp only at ihk'
        repeat' (first | (apply z0e; (first | refine z11 rfl (by decide) ?_ | (apply z0a; (first | refine z00 (z0u rfl rfl rfl rfl) rfl rfl (by decide) ?_ | refine z00 (z14 rfl rfl) rfl rfl (by decide) ?_)) | (apply z07; (refine z00 (z04 rfl rfl) rfl rfl (by decide) ?_)) | (apply z1f; (refine z00 (z1b (ys := ps.map rxc) rfl (by omega) (z3p hp) rfl) rfl rfl (by decide) ?_)) | (apply z13; (refine z00 (z19 (z1o (by omega) (by omega))) rfl rfl (by decide) ?_)) | (apply z1e; (refine z68 (g := rxc) rfl rfl rfl rfl rfl z2t rfl rfl (by decide) (by omega) ?_)) | (apply z05; (refine z06 rfl rfl rfl rfl rfl rfl ?_)) | (apply z0n; (refine z0k (z0l rfl rfl (by decide)) ?_)))) | (apply z0b; (first | refine z10 ?_ | apply z0d)) | (apply z0c; (first | apply z0f | apply z01 | refine z0r rfl ?_ | apply z09 | apply z03 | apply z08 | refine z1i rfl (fun _ => ?_) (fun _ => ?_) | refine z0p rfl ?_)))
        all_goals try (exfalso; omega)
        all_goals refine z38 45 1001 rfl rfl ?_
        all_goals exact z0s ihk' rfl rfl
      · have hf2 : flat 3 (Rx.mk op mn mx rs ks) = [Rx.mk op mn mx rs ks] := by simp [flat, Rx.op, h2]
        rw [hf2] at ihk' hKl
        simp only [List.length_singleton] at ihk' hKl
        repeat' (first | (apply z0e; (first | refine z11 rfl (by decide) ?_ | (apply z0a; (first | refine z00 (z0u rfl rfl rfl rfl) rfl rfl (by decide) ?_ | refine z00 (z14 rfl rfl) rfl rfl (by decide) ?_ | refine z00 (z15 rfl rfl rfl rfl) rfl rfl (by decide) ?_)) | (apply z07; (refine z00 (z04 rfl rfl) rfl rfl (by decide) ?_)) | (apply z1f; (refine z00 (z1b (ys := ps.map rxc) rfl (by omega) (z3p hp) rfl) rfl rfl (by decide) ?_)) | (apply z13; (refine z00 (z19 (z1o (by omega) (by omega))) rfl rfl (by decide) ?_)) | (apply z1e; (refine z2d (g := rxc) rfl rfl (Rx.mk op mn mx rs ks) (by rw [z1v]; rfl) rfl rfl rfl (z2t _) rfl rfl (by decide) (by omega) ?_)) | (apply z05; (refine z06 rfl rfl rfl rfl rfl rfl ?_)) | (apply z0n; (refine z0k (z0l rfl rfl (by decide)) ?_)) | (apply z27; (refine z29 rfl rfl rfl rfl rfl rfl rfl rfl (by decide) ?_)))) | (apply z0b; (first | refine z10 ?_ | apply z0d)) | (apply z0c; (first | apply z0f | apply z01 | apply z09 | apply z03 | apply z08 | refine z1i rfl (fun _ => ?_) (fun _ => ?_) | refine z0p rfl ?_)))
        all_goals try (exfalso; omega)
        all_goals refine z38 51 1001 rfl rfl ?_
        all_goals exact z0s ihk' rfl rfl
    · obtain rfl : k = ps.length := by omega
      rw [List.drop_length, List.flatMap_nil, List.append_nil] at k2
      subst k2
      clear ihk
      refine z1t 1001 rfl ?_
      repeat' (first | (apply z0e; (first | refine z11 rfl (by decide) ?_ | (apply z0a; (refine z00 (z15 rfl rfl rfl rfl) rfl rfl (by decide) ?_)) | (apply z05; (refine z06 rfl rfl rfl rfl rfl rfl ?_)))) | (apply z0b; (first | refine z10 ?_ | apply z0d)) | (apply z0c; (first | apply z0f | apply z01 | apply z09 | apply z03 | refine z1i rfl (fun _ => ?_) (fun _ => ?_) | refine z0p rfl ?_)))
      all_goals try (exfalso; omega)
      all_goals ((repeat rw [z0i]); exact z0g Tryz.func18 _ (z1n rfl rfl rfl rfl rfl rfl) ⟨rfl, rfl⟩)
 | ok r =>
  obtain ⟨j, hj, rfl, i2, i3⟩ := i1
  rw [zuj] at i2
  rw [nxS] at hn
  have ht : (us.drop j).tail = us.drop (j + 1) := List.tail_drop
  by_cases h124 : nx (us.drop j) = 124
  · obtain ⟨hjl, _, _⟩ := nxd hu h124 (by decide)
    rw [if_pos h124, ht] at i2
    rw [h124, z3j hj] at hn
    cases m with
    | zero => rw [rU] at i2; exact absurd i2.symm hne
    | succ m =>
    have hc := hC m (by omega) (j + 1) hjl (e0 + 1) (fun h => hne (by rw [← i2, rU, h]))
    have hat := fun e r => zsf (n := m) hjl (e := e) (r := r)
    have hsz := (zub m).2.1 [] (us.drop (j + 1))
    have hll := z3k ps
    cases hp : rC m [] (us.drop (j + 1)) with
    | out => rw [rU, hp] at i2; exact absurd i2.symm hne
    | res e t =>
     rw [zos hp] at i2
     rw [hp] at hc hsz
     simp only [hp] at hat
     have hJ : uJ us T m (ps ++ [e]) t := by
      rw [List.length_drop] at hsz
      cases t with
      | er y a c =>
       simp only [szB, szL] at hsz
       exact ⟨i2.symm, by rw [z8g]; omega⟩
      | ok r =>
       obtain ⟨k, _, hk, rfl⟩ := hat e r rfl
       simp only [szB, List.length_drop, szL] at hsz
       exact ⟨k, hk, rfl, i2, by rw [z8g]; omega⟩
     have ih' := ih (m, ps ++ [e], t) ⟨by simp only; omega, hJ⟩ (by simp only; omega)
     clear ih
     simp only [bkR, rsR] at hc
     rw [z3j hj]
     simp only at ih'
     generalize bkS s us qs t = BB at *
     obtain ⟨op, mn, mx, rs, ks⟩ := e
     rw [z2r] at hc
     repeat' (first | (apply z0e; (first | refine z11 rfl (by decide) ?_ | (apply z0a; (refine z0q rfl (z02 _ (e0, X) _) rfl rfl rfl rfl (by decide) ?_)) | (apply z07; (refine z00 (z04 rfl rfl) rfl rfl (by decide) ?_)) | (apply z13; (refine z00 (z19 (z1o (by omega) (by omega))) rfl rfl (by decide) ?_)) | (apply z1e; (refine z2d (g := rxc) rfl rfl (Rx.mk op mn mx rs ks) (by rw [z1v]; rfl) rfl rfl rfl (z2t _) rfl rfl (by decide) (by omega) ?_)) | (apply z0o; (first | refine z0m hn rfl (bk1 (m := (e0 + 1, X)) (z02 _ (e0, X) _)) (by decide) ?_ | refine z0v hc rfl (z02 _ (e0, X) _) z1k (by decide) ?_)) | (apply z05; (refine z0w (raw' := rbx s qs ((j + 1 : Nat) : Int) 0 0 false) rfl (z02 _ (e0, X) _) rfl rfl rfl rfl rfl rfl ?_)) | (apply z27; (refine z29 rfl rfl rfl rfl rfl rfl rfl rfl (by decide) ?_)))) | (apply z0b; (first | refine z10 ?_ | apply z0d)) | (apply z0c; (first | apply z0f | apply z01 | refine z0r rfl ?_ | apply z09 | apply z03 | apply z08)))
     all_goals try (exfalso; omega)
     all_goals ((repeat rw [z0i]); refine z38 24 1000 rfl rfl ?_; exact z0s ih' rfl rfl)
  · rw [if_neg h124] at i2
    have hsz : szL ps ≤ 2 * us.length + 2 := by omega
    have hT := i2.symm
    rw [hT, bkR, rsR]
    generalize bkS s us qs (Sr.ok (us.drop j)) = BB at *
    generalize nx (us.drop j) = c at *
    clear ih
    have hll := z3k ps
    by_cases h1 : ps.length = 1
    · obtain ⟨x, rfl⟩ := List.length_eq_one_iff.1 h1
      obtain ⟨op, mn, mx, rs, ks⟩ := x
      rw [show zjg [Rx.mk op mn mx rs ks] = Rx.mk op mn mx rs ks from rfl, z2r, List.map_cons, List.map_nil, z1v]
      refine z1t 1000 rfl ?_
      repeat' (first | (apply z0e; (first | refine z11 rfl (by decide) ?_ | (apply z0a; (refine z00 (z14 rfl rfl) rfl rfl (by decide) ?_)) | (apply z07; (refine z00 (z04 rfl rfl) rfl rfl (by decide) ?_)) | (apply z1f; (refine z00 (z1b (u := rx5 op mn mx rs ks) rfl (by omega) rfl rfl) rfl rfl (by decide) ?_)) | (apply z1e; (refine z00 (z8y rfl) rfl rfl (by decide) ?_)) | (apply z0o; (refine z0m hn rfl (bk1 (m := (e0 + 1, X)) (z02 _ (e0, X) _)) (by decide) ?_)) | (apply z05; (refine z06 rfl rfl rfl rfl rfl rfl ?_)))) | (apply z0b; (first | refine z10 ?_ | apply z0d)) | (apply z0c; (first | apply z0f | apply z01 | refine z0r rfl ?_ | apply z09 | apply z03 | refine z1i rfl (fun _ => ?_) (fun _ => ?_) | refine z0p rfl ?_)))
      all_goals try (exfalso; omega)
      all_goals ((repeat rw [z0i]); exact z0g Tryz.func18 _ (z1n rfl rfl rfl rfl rfl rfl) ⟨rfl, rfl⟩)
    · rw [zlu h1]
      have hFl := z6p 3 ps
      have hFl2 := z3k (ps.flatMap (flat 3))
      obtain ⟨F, hF⟩ : ∃ F, ps.flatMap (flat 3) = F := ⟨_, rfl⟩
      rw [hF] at hFl hFl2 ⊢
      rw [z2r]
      refine z1t 1000 rfl ?_
      repeat' (first | (apply z0e; (first | refine z11 rfl (by decide) ?_ | (apply z07; (refine z00 (z04 rfl rfl) rfl rfl (by decide) ?_)) | (apply z1e; (refine z00 (z1q rfl) rfl rfl (by decide) ?_)) | (apply z0o; (refine z0m hn rfl (bk1 (m := (e0 + 1, X)) (z02 _ (e0, X) _)) (by decide) ?_)) | (apply z05; (refine z06 rfl rfl rfl rfl rfl rfl ?_)) | (apply z0n; (refine z0k (z0l rfl rfl (by decide)) ?_)) | (apply z0y; (refine z0x rfl rfl rfl rfl rfl rfl rfl (by decide) ?_)))) | (apply z0b; (first | refine z10 ?_ | apply z0d)) | (apply z0c; (first | apply z0f | apply z01 | apply z09 | apply z03 | refine z1i rfl (fun _ => ?_) (fun _ => ?_) | refine z0p rfl ?_)))
      all_goals try (exfalso; omega)
      all_goals refine z0s (tm' := [(2, .ptr (0, 2) 0), (4, .ptr (0, 4) 0), (32, .d (.slice (ps.map rxc))), (33, I .i64 ps.length), (34, I .i64 ((0 : Nat) : Int))]) (hp' := [(4, .box [.d (z48 3), .d (z48 0), .d (z48 0), .d (.lit z2o), .d (.lit z2o)]), (2, .box (z3y [Value.int .i64 0, Value.int .i64 0, Value.int .i64 0, z2o, z2o]))]) ?_ rfl rfl
      all_goals refine z4v 4 4 1001 25 5 rfl rfl rfl rfl ?_
      refine z1x ?_
      refine z0s (z2u (fun q : Nat × List Rx => ⟨55, [(2, .ptr (0, 2) 0), (4, .ptr (0, 4) 0), (32, .d (.slice (ps.map rxc))), (33, I .i64 ps.length), (34, I .i64 (q.1 : Nat))], [(4, .box [.d (z48 3), .d (z48 0), .d (z48 0), .d (.lit z2o), .ref (0, 1001)]), (1001, .row 25 5 (q.2.map rxc)), (2, .box (z3y [Value.int .i64 0, Value.int .i64 0, Value.int .i64 0, z2o, z2o]))], upd H (e0, X) BB⟩)
       (fun q => q.1 ≤ ps.length ∧ q.2 ++ (ps.drop q.1).flatMap (flat 3) = F) (fun q => ps.length - q.1) ?_ (0, []) ⟨Nat.zero_le _, hF⟩) rfl rfl
      rintro ⟨k, K⟩ ⟨k1, k2⟩ ihk
      simp only at k1 k2 ihk ⊢
      have hKl := congrArg List.length k2
      rw [List.length_append] at hKl
      by_cases hlt : k < ps.length
      · obtain ⟨p, hp⟩ : ∃ p, ps[k]? = some p := ⟨_, List.getElem?_eq_getElem hlt⟩
        rw [drop_cons hp, List.flatMap_cons] at k2 hKl
        rw [List.length_append] at hKl
        have ihk' := ihk (k + 1, K ++ flat 3 p) ⟨by simp only; omega, by simp only; rw [List.append_assoc]; exact k2⟩ (by simp only; omega)
        obtain ⟨op, mn, mx, rs, ks⟩ := p
        by_cases h2 : op = 3
        · have hf2 : flat 3 (Rx.mk op mn mx rs ks) = ks := by simp [flat, Rx.op, Rx.ks, h2]
          rw [hf2] at ihk' hKl
          subst h2
          simp only at ihk'
          repeat' (first | (apply z0e; (first | refine z11 rfl (by decide) ?_ | (apply z0a; (first | refine z00 (z0u rfl rfl rfl rfl) rfl rfl (by decide) ?_ | refine z00 (z14 rfl rfl) rfl rfl (by decide) ?_)) | (apply z07; (refine z00 (z04 rfl rfl) rfl rfl (by decide) ?_)) | (apply z1f; (refine z00 (z1b (ys := ps.map rxc) rfl (by omega) (z3p hp) rfl) rfl rfl (by decide) ?_)) | (apply z13; (refine z00 (z19 (z1o (by omega) (by omega))) rfl rfl (by decide) ?_)) | (apply z1e; (refine z68 (g := rxc) rfl rfl rfl rfl rfl z2t rfl rfl (by decide) (by omega) ?_)) | (apply z05; (refine z06 rfl rfl rfl rfl rfl rfl ?_)) | (apply z0n; (refine z0k (z0l rfl rfl (by decide)) ?_)))) | (apply z0b; (first | refine z10 ?_ | apply z0d)) | (apply z0c; (first | apply z0f | apply z01 | refine z0r rfl ?_ | apply z09 | apply z03 | apply z08 | refine z1i rfl (fun _ => ?_) (fun _ => ?_) | refine z0p rfl ?_)))
          all_goals try (exfalso; omega)
          all_goals refine z38 45 1001 rfl rfl ?_
          all_goals exact z0s ihk' rfl rfl
        · have hf2 : flat 3 (Rx.mk op mn mx rs ks) = [Rx.mk op mn mx rs ks] := by simp [flat, Rx.op, h2]
          rw [hf2] at ihk' hKl
          simp only [List.length_singleton] at ihk' hKl
          repeat' (first | (apply z0e; (first | refine z11 rfl (by decide) ?_ | (apply z0a; (first | refine z00 (z0u rfl rfl rfl rfl) rfl rfl (by decide) ?_ | refine z00 (z14 rfl rfl) rfl rfl (by decide) ?_ | refine z00 (z15 rfl rfl rfl rfl) rfl rfl (by decide) ?_)) | (apply z07; (refine z00 (z04 rfl rfl) rfl rfl (by decide) ?_)) | (apply z1f; (refine z00 (z1b (ys := ps.map rxc) rfl (by omega) (z3p hp) rfl) rfl rfl (by decide) ?_)) | (apply z13; (refine z00 (z19 (z1o (by omega) (by omega))) rfl rfl (by decide) ?_)) | (apply z1e; (refine z2d (g := rxc) rfl rfl (Rx.mk op mn mx rs ks) (by rw [z1v]; rfl) rfl rfl rfl (z2t _) rfl rfl (by decide) (by omega) ?_)) | (apply z05; (refine z06 rfl rfl rfl rfl rfl rfl ?_)) | (apply z0n; (refine z0k (z0l rfl rfl (by decide)) ?_)) | (apply z27; (refine z29 rfl rfl rfl rfl rfl rfl rfl rfl (by decide) ?_)))) | (apply z0b; (first | refine z10 ?_ | apply z0d)) | (apply z0c; (first | apply z0f | apply z01 | apply z09 | apply z03 | apply z08 | refine z1i rfl (fun _ => ?_) (fun _ => ?_) | refine z0p rfl ?_)))
          all_goals try (exfalso; omega)
          all_goals refine z38 51 1001 rfl rfl ?_
          all_goals exact z0s ihk' rfl rfl
      · obtain rfl : k = ps.length := by omega
        rw [List.drop_length, List.flatMap_nil, List.append_nil] at k2
        subst k2
        clear ihk
        refine z1t 1001 rfl ?_
        repeat' (first | (apply z0e; (first | refine z11 rfl (by decide) ?_ | (apply z0a; (refine z00 (z15 rfl rfl rfl rfl) rfl rfl (by decide) ?_)) | (apply z05; (refine z06 rfl rfl rfl rfl rfl rfl ?_)))) | (apply z0b; (first | refine z10 ?_ | apply z0d)) | (apply z0c; (first | apply z0f | apply z01 | apply z09 | apply z03 | refine z1i rfl (fun _ => ?_) (fun _ => ?_) | refine z0p rfl ?_)))
        all_goals try (exfalso; omega)
        all_goals ((repeat rw [z0i]); exact z0g Tryz.func18 _ (z1n rfl rfl rfl rfl rfl rfl) ⟨rfl, rfl⟩)
theorem znt (N : Nat) (hN : N ≤ 1000000) : KU s us qs X N := by
 induction N using Nat.strongRecOn with
 | _ N ih =>
  refine zo8 hu N fun m hm => zkf hu m fun k hk => ?_
  match k, hk with
  | 0, _ => intro i hi e0 h; exact absurd (by rw [rR]) h
  | 1, _ => intro i hi e0 h; exact absurd (by rw [rR, rA]) h
  | k + 2, hk => exact zkt hu k (zqp hu k (by omega) (ih k (by omega) (by omega)))
end
end Go.Proofs.YtjmbjgecfpggdaaGreatDoor
