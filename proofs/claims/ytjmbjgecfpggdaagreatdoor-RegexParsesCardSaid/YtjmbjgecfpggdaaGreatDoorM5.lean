/- A part of the proof: Z5. -/
import Derived.Test.YtjmbjgecfpggdaaGreatDoorRu
import Derived.Test.YtjmbjgecfpggdaaGreatDoorMX25
set_option linter.all false
set_option linter.unusedVariables false
set_option linter.unusedSimpArgs false
namespace Go.Proofs.YtjmbjgecfpggdaaGreatDoor
open Go.Ab Go.Rx
set_option maxHeartbeats 20000000
set_option maxRecDepth 100000
attribute [local irreducible] Run Ops Op1 z2q Val Tr z1p z2j NF Rel z5b z5c
theorem zbt (l : List Rg) (hl : l.length ≤ 1000000) (hv : vR l) : z1p Tryz.prog 101 [.d (rgs l)] (.d (rgs (norm l))) := by
 refine z2e fun H => ?_
 refine z1c Tryz.func101 (by kernel_rfl) rfl (by simp) ?_
 dsimp only [Tryz.f101]
 repeat' (first | (apply z0e; (refine z11 rfl (by decide) ?_)) | (apply z0b; (first | refine z10 ?_ | apply z0d)) | (apply z0c; (first | apply z0f | apply z01 | apply z03)))
 all_goals try (exfalso; omega)
 refine z3e 3 1000 52 2 rfl rfl rfl ?_
 refine z1x ?_
 refine z0s (z2u (fun q : List Rg × Int => ⟨70, [(0, .d (rgs l)), (3, .ref (0, 1000)), (4, I .i32 q.2)], [(1000, .row 52 2 (q.1.map rgc))], H⟩) (fun q => nsI l q.1 q.2) (fun q => (1114112 - q.2).toNat) ?_ ([], 0) (zv4 hv)) rfl rfl
 rintro ⟨r, a⟩ i0 ih
 simp only at i0 ih ⊢
 have ja := i0.1
 have jb := i0.2.1
 have jr := i0.2.2.2.2.2.2
 by_cases hc : a ≤ 1114111
 · have hF := zny a hv
   repeat' (first | (apply z0e; (first | refine z11 rfl (by decide) ?_ | (apply z1e; (refine z00 (z1q rfl) rfl rfl (by decide) ?_)))) | (apply z0b; (first | refine z10 ?_ | apply z0d)) | (apply z0c; (first | apply z0f | apply z01 | apply z09 | apply z03 | refine z1i rfl (fun _ => ?_) (fun _ => ?_) | refine z0p rfl ?_)))
   all_goals try (exfalso; omega)
   refine z1x ?_
   refine z0s (z2u (fun q : Nat × Int => ⟨70, [(0, .d (rgs l)), (3, .ref (0, 1000)), (4, I .i32 a), (5, I .i32 q.2), (14, .d (rgs l)), (15, I .i64 l.length), (16, I .i64 (q.1 : Nat))], [(1000, .row 52 2 (r.map rgc))], H⟩) (fun q => q.1 ≤ l.length ∧ (l.drop q.1).foldl (nf1 a) q.2 = nfF a l) (fun q => l.length - q.1) ?_ (0, 1114112) ⟨Nat.zero_le _, rfl⟩) rfl rfl
   rintro ⟨i, f⟩ ⟨i1, i2⟩ ihi
   simp only at i1 i2 ihi ⊢
   by_cases hlt : i < l.length
   · obtain ⟨x, hx⟩ : ∃ x, l[i]? = some x := ⟨_, List.getElem?_eq_getElem hlt⟩
     obtain ⟨b1, b2, b3⟩ := hv x (List.mem_of_getElem? hx)
     rw [drop_cons hx, List.foldl_cons] at i2
     by_cases hn : a ≤ x.2 ∧ max x.1 a < f
     · rw [nf1, if_pos hn] at i2
       have ihi' := ihi (i + 1, max x.1 a) ⟨by simp only; omega, i2⟩ (by simp only; omega)
       repeat' (first | (apply z0e; (first | refine z11 rfl (by decide) ?_ | (apply z0a; (first | refine z00 (z0u rfl rfl rfl rfl) rfl rfl (by decide) ?_ | refine z00 (z14 rfl rfl) rfl rfl (by decide) ?_)) | (apply z07; (refine z00 (z04 rfl rfl) rfl rfl (by decide) ?_)) | (apply z1f; (refine z00 (z1b (ys := l.map rgc) rfl (by omega) (idx hx) rfl) rfl rfl (by decide) ?_)) | (apply z13; (refine z00 (z19 (z1o (by omega) (by omega))) rfl rfl (by decide) ?_)) | (apply z1e; (refine z00 z9a rfl rfl (by decide) ?_)) | (apply z05; (refine z06 rfl rfl rfl rfl rfl rfl ?_)) | (apply z0n; (refine z0k (z0l rfl rfl (by decide)) ?_)))) | (apply z0b; (first | refine z10 ?_ | apply z0d | refine z2f rfl rfl (by decide) ?_ | refine z16 rfl rfl (fun _ => ?_) (fun _ => ?_))) | (apply z0c; (first | apply z0f | apply z01 | refine z0h rfl ?_ | apply z09 | apply z03 | apply z08 | refine z1i rfl (fun _ => ?_) (fun _ => ?_) | refine z0p rfl ?_)))
       all_goals try (exfalso; omega)
       all_goals exact z0s ihi' rfl rfl
     · rw [nf1, if_neg hn] at i2
       have ihi' := ihi (i + 1, f) ⟨by simp only; omega, i2⟩ (by simp only; omega)
       repeat' (first | (apply z0e; (first | refine z11 rfl (by decide) ?_ | (apply z0a; (first | refine z00 (z0u rfl rfl rfl rfl) rfl rfl (by decide) ?_ | refine z00 (z14 rfl rfl) rfl rfl (by decide) ?_)) | (apply z07; (refine z00 (z04 rfl rfl) rfl rfl (by decide) ?_)) | (apply z1f; (refine z00 (z1b (ys := l.map rgc) rfl (by omega) (idx hx) rfl) rfl rfl (by decide) ?_)) | (apply z13; (refine z00 (z19 (z1o (by omega) (by omega))) rfl rfl (by decide) ?_)) | (apply z1e; (refine z00 z9a rfl rfl (by decide) ?_)) | (apply z05; (refine z06 rfl rfl rfl rfl rfl rfl ?_)) | (apply z0n; (refine z0k (z0l rfl rfl (by decide)) ?_)))) | (apply z0b; (first | refine z10 ?_ | apply z0d | refine z2f rfl rfl (by decide) ?_ | refine z16 rfl rfl (fun _ => ?_) (fun _ => ?_))) | (apply z0c; (first | apply z0f | apply z01 | refine z0h rfl ?_ | apply z09 | apply z03 | apply z08 | refine z1i rfl (fun _ => ?_) (fun _ => ?_) | refine z0p rfl ?_)))
       all_goals try (exfalso; omega)
       all_goals exact z0s ihi' rfl rfl
   · obtain rfl : i = l.length := by omega
     rw [List.drop_length, List.foldl_nil] at i2
     rw [← i2] at hF
     clear ihi
     by_cases hg : f ≤ 1114111
     · have hF1 := hF.1.resolve_left (by omega)
       have hF2 := hF.2
       repeat' (first | (apply z0e; (refine z11 rfl (by decide) ?_)) | (apply z0b; (first | refine z10 ?_ | apply z0d)) | (apply z0c; (first | apply z0f | apply z01 | apply z09 | apply z03 | refine z1i rfl (fun _ => ?_) (fun _ => ?_) | refine z0p rfl ?_)))
       all_goals try (exfalso; omega)
       refine z1x ?_
       refine z0s (z2u (fun q : Int × Bool => ⟨70, [(0, .d (rgs l)), (3, .ref (0, 1000)), (4, I .i32 a), (5, I .i32 f), (6, I .i32 q.1), (9, B q.2)], [(1000, .row 52 2 (r.map rgc))], H⟩) (fun q => f ≤ q.1 ∧ q.1 ≤ 1114111 ∧ (∀ c, f ≤ c → c ≤ q.1 → inS l c) ∧ (q.2 = false → ¬ inS l (q.1 + 1))) (fun q => if q.2 = true then 2 * (1114112 - q.1).toNat + 1 else 0) ?_ (f, true) ⟨Int.le_refl _, hg, fun c c1 c2 => (by rw [show c = f by omega]; exact hF1.2.1), fun h => by cases h⟩) rfl rfl
       rintro ⟨t, b⟩ ⟨t1, t2, t3, t4⟩ iht
       simp only at t1 t2 t3 t4 iht ⊢
       cases b with
       | true =>
        have hT := zmm hv t2
        repeat' (first | (apply z0e; (first | refine z11 rfl (by decide) ?_ | (apply z1e; (refine z00 (z1q rfl) rfl rfl (by decide) ?_)))) | (apply z0b; (first | refine z10 ?_ | apply z0d)) | (apply z0c; (first | apply z0f | apply z01 | refine z0r rfl ?_ | apply z09 | apply z03)))
        all_goals try (exfalso; omega)
        refine z1x ?_
        refine z0s (z2u (fun q : Nat × Int × Bool => ⟨70, [(0, .d (rgs l)), (3, .ref (0, 1000)), (4, I .i32 a), (5, I .i32 f), (6, I .i32 q.2.1), (9, B q.2.2), (41, .d (rgs l)), (42, I .i64 l.length), (43, I .i64 (q.1 : Nat))], [(1000, .row 52 2 (r.map rgc))], H⟩) (fun q => q.1 ≤ l.length ∧ 0 ≤ q.2.1 ∧ q.2.1 ≤ 1114111 ∧ (l.drop q.1).foldl nt1 q.2 = nfT l t) (fun q => l.length - q.1) ?_ (0, t, false) ⟨Nat.zero_le _, by simp only; omega, t2, rfl⟩) rfl rfl
        rintro ⟨i, u, b⟩ ⟨i1, u0, u1, i2⟩ ihi
        simp only at i1 u0 u1 i2 ihi ⊢
        by_cases hlt : i < l.length
        · obtain ⟨x, hx⟩ : ∃ x, l[i]? = some x := ⟨_, List.getElem?_eq_getElem hlt⟩
          obtain ⟨b1, b2, b3⟩ := hv x (List.mem_of_getElem? hx)
          rw [drop_cons hx, List.foldl_cons] at i2
          by_cases hn : x.1 ≤ u + 1 ∧ u < x.2
          · rw [nt1, if_pos hn] at i2
            have ihi' := ihi (i + 1, x.2, true) ⟨by simp only; omega, by simp only; omega, by simp only; omega, i2⟩ (by simp only; omega)
            repeat' (first | (apply z0e; (first | refine z11 rfl (by decide) ?_ | (apply z0a; (first | refine z00 (z0u rfl rfl rfl rfl) rfl rfl (by decide) ?_ | refine z00 (z14 rfl rfl) rfl rfl (by decide) ?_)) | (apply z07; (refine z00 (z04 rfl rfl) rfl rfl (by decide) ?_)) | (apply z1f; (refine z00 (z1b (ys := l.map rgc) rfl (by omega) (idx hx) rfl) rfl rfl (by decide) ?_)) | (apply z13; (first | refine z00 (z19 (za2 (by omega) (by omega))) rfl rfl (by decide) ?_ | refine z00 (z19 (z1o (by omega) (by omega))) rfl rfl (by decide) ?_)) | (apply z05; (refine z06 rfl rfl rfl rfl rfl rfl ?_)) | (apply z0n; (refine z0k (z0l rfl rfl (by decide)) ?_)))) | (apply z0b; (first | refine z10 ?_ | apply z0d | refine z2f rfl rfl (by decide) ?_ | refine z16 rfl rfl (fun _ => ?_) (fun _ => ?_))) | (apply z0c; (first | apply z0f | apply z01 | refine z0h rfl ?_ | apply z09 | apply z03 | apply z08 | refine z1i rfl (fun _ => ?_) (fun _ => ?_) | refine z0p rfl ?_)))
            all_goals try (exfalso; omega)
            all_goals exact z0s ihi' rfl rfl
          · rw [nt1, if_neg hn] at i2
            have ihi' := ihi (i + 1, u, b) ⟨by simp only; omega, u0, u1, i2⟩ (by simp only; omega)
            repeat' (first | (apply z0e; (first | refine z11 rfl (by decide) ?_ | (apply z0a; (first | refine z00 (z0u rfl rfl rfl rfl) rfl rfl (by decide) ?_ | refine z00 (z14 rfl rfl) rfl rfl (by decide) ?_)) | (apply z07; (refine z00 (z04 rfl rfl) rfl rfl (by decide) ?_)) | (apply z1f; (refine z00 (z1b (ys := l.map rgc) rfl (by omega) (idx hx) rfl) rfl rfl (by decide) ?_)) | (apply z13; (first | refine z00 (z19 (za2 (by omega) (by omega))) rfl rfl (by decide) ?_ | refine z00 (z19 (z1o (by omega) (by omega))) rfl rfl (by decide) ?_)) | (apply z05; (refine z06 rfl rfl rfl rfl rfl rfl ?_)) | (apply z0n; (refine z0k (z0l rfl rfl (by decide)) ?_)))) | (apply z0b; (first | refine z10 ?_ | apply z0d | refine z2f rfl rfl (by decide) ?_ | refine z16 rfl rfl (fun _ => ?_) (fun _ => ?_))) | (apply z0c; (first | apply z0f | apply z01 | refine z0h rfl ?_ | apply z09 | apply z03 | apply z08 | refine z1i rfl (fun _ => ?_) (fun _ => ?_) | refine z0p rfl ?_)))
            all_goals try (exfalso; omega)
            all_goals exact z0s ihi' rfl rfl
        · obtain rfl : i = l.length := by omega
          rw [List.drop_length, List.foldl_nil] at i2
          rw [← i2] at hT
          clear ihi
          obtain ⟨h1, h2, h3, h4, h5⟩ := hT
          simp only at h1 h2 h3 h4 h5
          have iht' := iht (u, b) ⟨by simp only; omega, u1, fun c c1 c2 => (by
           by_cases h6 : c ≤ t
           · exact t3 c c1 h6
           · exact h3 c (by omega) c2), fun h => (by have := h4 h; simp only; rw [this.1]; exact this.2)⟩ (by
           cases b with
           | true => have := h5 rfl; simp; omega
           | false => simp)
          repeat' (first | (apply z0e; (refine z11 rfl (by decide) ?_)) | (apply z0b; (first | refine z10 ?_ | apply z0d)) | (apply z0c; (first | apply z0f | apply z01 | apply z09 | apply z03 | apply z08 | refine z1i rfl (fun _ => ?_) (fun _ => ?_) | refine z0p rfl ?_)))
          all_goals try (exfalso; omega)
          all_goals exact z0s iht' rfl rfl
       | false =>
        have ih' := ih (r ++ [(f, t)], t + 1) (zmf i0 hv hF1.1 hF2 t1 t2 t3 (t4 rfl)) (by simp only; omega)
        repeat' (first | (apply z0e; (first | refine z11 rfl (by decide) ?_ | (apply z13; (refine z00 (z19 (za2 (by omega) (by omega))) rfl rfl (by decide) ?_)) | (apply z1e; (refine z2d (g := rgc) rfl rfl (f, t) rfl rfl rfl rfl rfl rfl rfl (by decide) (by omega) ?_)) | (apply z0y; (refine z0x rfl rfl rfl rfl rfl rfl rfl (by decide) ?_)) | (apply z27; (refine z29 rfl rfl rfl rfl rfl rfl rfl rfl (by decide) ?_)))) | (apply z0b; (first | refine z10 ?_ | apply z0d)) | (apply z0c; (first | apply z0f | apply z01 | refine z0h rfl ?_ | apply z08 | refine z0p rfl ?_)))
        all_goals try (exfalso; omega)
        refine z38 66 1000 rfl rfl ?_
        exact z0s ih' rfl rfl
     · have hn : ∀ c, a ≤ c → ¬ inS l c := fun c c1 c2 => by
        have := hF.2 c c1 c2
        obtain ⟨x, hx, h3, h4⟩ := c2
        have := hv x hx; omega
       rw [← zjq i0 hv hn]
       repeat' (first | (apply z0e; (refine z11 rfl (by decide) ?_)) | (apply z0b; (first | refine z10 ?_ | apply z0d)) | (apply z0c; (first | apply z0f | apply z01 | apply z09 | apply z03 | refine z1i rfl (fun _ => ?_) (fun _ => ?_) | refine z0p rfl ?_)))
       all_goals try (exfalso; omega)
       refine z1t 1000 rfl ?_
       exact z0g Tryz.func101 _ (z0j rfl rfl) ⟨rfl, rfl⟩
 · have hn : ∀ c, a ≤ c → ¬ inS l c := fun c c1 c2 => by
    obtain ⟨x, hx, h3, h4⟩ := c2
    have := hv x hx; omega
   rw [← zjq i0 hv hn]
   repeat' (first | (apply z0e; (first | refine z11 rfl (by decide) ?_ | (apply z1e; (refine z00 (z1q rfl) rfl rfl (by decide) ?_)))) | (apply z0b; (first | refine z10 ?_ | apply z0d)) | (apply z0c; (first | apply z0f | apply z01 | apply z09 | apply z03 | refine z1i rfl (fun _ => ?_) (fun _ => ?_) | refine z0p rfl ?_)))
   all_goals try (exfalso; omega)
   refine z1t 1000 rfl ?_
   exact z0g Tryz.func101 _ (z0j rfl rfl) ⟨rfl, rfl⟩
theorem znl (l : List Rg) (hl : l.length ≤ 1000000) (hv : vR l) (hn : (norm l).length ≤ 1000000) (hb : ∀ r ∈ norm l, 0 ≤ r.1 ∧ r.1 ≤ 1114111 ∧ 0 ≤ r.2 ∧ r.2 ≤ 1114111) : z1p Tryz.prog 102 [.d (rgs l)] (.d (rgs (zfw l))) := by
 refine z2e fun H => ?_
 have hno := zbt l hl hv
 rw [zfw]
 generalize norm l = L at *
 refine z1c Tryz.func102 (by kernel_rfl) rfl (by simp) ?_
 dsimp only [Tryz.f102]
 repeat' (first | (apply z0e; (first | refine z11 rfl (by decide) ?_ | (apply z1e; (refine z00 (z1q rfl) rfl rfl (by decide) ?_)) | (apply z0o; (refine z2v hno rfl (by decide) ?_)))) | (apply z0b; (first | refine z10 ?_ | apply z0d)) | (apply z0c; (first | apply z0f | apply z01 | apply z03)))
 all_goals try (exfalso; omega)
 refine z3e 3 1000 52 2 rfl rfl rfl ?_
 refine z1x ?_
 refine z0s (z2u (fun q : Nat × Int × List Rg => ⟨38, [(8, .d (rgs L)), (9, I .i64 L.length), (10, I .i64 (q.1 : Nat)), (4, I .i32 q.2.1), (3, .ref (0, 1000))], [(1000, .row 52 2 (q.2.2.map rgc))], H⟩)
  (fun q => q.1 ≤ L.length ∧ 0 ≤ q.2.1 ∧ q.2.1 ≤ 1114112 ∧ q.2.2.length ≤ q.1 ∧ q.2.2 ++ zfy q.2.1 (L.drop q.1) = zfy 0 L) (fun q => L.length - q.1) ?_ (0, 0, []) ⟨Nat.zero_le _, by simp, by simp, by simp, by simp⟩) rfl rfl
 rintro ⟨i, a, out⟩ ⟨i1, i2, i3, i4, i5⟩ ih
 simp only at i1 i2 i3 i4 i5 ih ⊢
 by_cases hlt : i < L.length
 · obtain ⟨r, hr⟩ : ∃ r, L[i]? = some r := ⟨_, List.getElem?_eq_getElem hlt⟩
   obtain ⟨b1, b2, b3, b4⟩ := hb r (List.mem_of_getElem? hr)
   rw [drop_cons hr, zfy] at i5
   by_cases hc : a < r.1
   · rw [if_pos hc] at i5
     repeat' (first | (apply z0e; (first | refine z11 rfl (by decide) ?_ | (apply z0a; (first | refine z00 (z0u rfl rfl rfl rfl) rfl rfl (by decide) ?_ | refine z00 (z14 rfl rfl) rfl rfl (by decide) ?_)) | (apply z07; (refine z00 (z04 rfl rfl) rfl rfl (by decide) ?_)) | (apply z1f; (refine z00 (z1b (ys := L.map rgc) rfl (by omega) (idx hr) rfl) rfl rfl (by decide) ?_)) | (apply z13; (first | refine z00 (z42 (za2 (by omega) (by omega))) rfl rfl (by decide) ?_ | refine z00 (z19 (za2 (by omega) (by omega))) rfl rfl (by decide) ?_ | refine z00 (z19 (z1o (by omega) (by omega))) rfl rfl (by decide) ?_)) | (apply z1e; (refine z2d (g := rgc) rfl rfl (a, r.1 - 1) rfl rfl rfl rfl rfl rfl rfl (by decide) (by omega) ?_)) | (apply z05; (refine z06 rfl rfl rfl rfl rfl rfl ?_)) | (apply z0n; (refine z0k (z0l rfl rfl (by decide)) ?_)) | (apply z0y; (refine z0x rfl rfl rfl rfl rfl rfl rfl (by decide) ?_)) | (apply z27; (refine z29 rfl rfl rfl rfl rfl rfl rfl rfl (by decide) ?_)))) | (apply z0b; (first | refine z10 ?_ | apply z0d)) | (apply z0c; (first | apply z0f | apply z01 | apply z09 | apply z03 | apply z08 | refine z1i rfl (fun _ => ?_) (fun _ => ?_) | refine z0p rfl ?_)))
     all_goals try (exfalso; omega)
     refine z38 25 1000 rfl rfl ?_
     exact z0s (ih (i + 1, r.2 + 1, out ++ [(a, r.1 - 1)]) ⟨by simp only; omega, by simp only; omega, by simp only; omega, by simp; omega, by simpa using i5⟩ (by simp only; omega)) rfl rfl
   · rw [if_neg hc] at i5
     repeat' (first | (apply z0e; (first | refine z11 rfl (by decide) ?_ | (apply z0a; (first | refine z00 (z0u rfl rfl rfl rfl) rfl rfl (by decide) ?_ | refine z00 (z14 rfl rfl) rfl rfl (by decide) ?_)) | (apply z07; (refine z00 (z04 rfl rfl) rfl rfl (by decide) ?_)) | (apply z1f; (refine z00 (z1b (ys := L.map rgc) rfl (by omega) (idx hr) rfl) rfl rfl (by decide) ?_)) | (apply z13; (first | refine z00 (z19 (za2 (by omega) (by omega))) rfl rfl (by decide) ?_ | refine z00 (z19 (z1o (by omega) (by omega))) rfl rfl (by decide) ?_)) | (apply z05; (refine z06 rfl rfl rfl rfl rfl rfl ?_)) | (apply z0n; (refine z0k (z0l rfl rfl (by decide)) ?_)) | (apply z0y; (refine z0x rfl rfl rfl rfl rfl rfl rfl (by decide) ?_)) | (apply z27; (refine z29 rfl rfl rfl rfl rfl rfl rfl rfl (by decide) ?_)))) | (apply z0b; (first | refine z10 ?_ | apply z0d)) | (apply z0c; (first | apply z0f | apply z01 | apply z09 | apply z03 | apply z08 | refine z1i rfl (fun _ => ?_) (fun _ => ?_) | refine z0p rfl ?_)))
     all_goals try (exfalso; omega)
     exact z0s (ih (i + 1, r.2 + 1, out) ⟨by simp only; omega, by simp only; omega, by simp only; omega, by simp; omega, by simpa using i5⟩ (by simp only; omega)) rfl rfl
 · obtain rfl : i = L.length := by omega
   rw [List.drop_length, zfy] at i5
   by_cases hc : a ≤ 1114111
   · rw [if_pos hc] at i5
     rw [← i5]
     repeat' (first | (apply z0e; (first | refine z11 rfl (by decide) ?_ | (apply z1e; (refine z2d (g := rgc) rfl rfl (a, 1114111) rfl rfl rfl rfl rfl rfl rfl (by decide) (by omega) ?_)) | (apply z0y; (refine z0x rfl rfl rfl rfl rfl rfl rfl (by decide) ?_)) | (apply z27; (refine z29 rfl rfl rfl rfl rfl rfl rfl rfl (by decide) ?_)))) | (apply z0b; (first | refine z10 ?_ | apply z0d)) | (apply z0c; (first | apply z0f | apply z01 | apply z09 | apply z03 | refine z1i rfl (fun _ => ?_) (fun _ => ?_) | refine z0p rfl ?_)))
     all_goals try (exfalso; omega)
     refine z1t 36 rfl ?_
     exact z0g Tryz.func102 _ (z0j rfl rfl) ⟨rfl, rfl⟩
   · rw [if_neg hc, List.append_nil] at i5
     rw [← i5]
     repeat' (first | (apply z0e; (first | refine z11 rfl (by decide) ?_ | (apply z0y; (refine z0x rfl rfl rfl rfl rfl rfl rfl (by decide) ?_)) | (apply z27; (refine z29 rfl rfl rfl rfl rfl rfl rfl rfl (by decide) ?_)))) | (apply z0b; (first | refine z10 ?_ | apply z0d)) | (apply z0c; (first | apply z0f | apply z01 | apply z09 | apply z03 | refine z1i rfl (fun _ => ?_) (fun _ => ?_) | refine z0p rfl ?_)))
     all_goals try (exfalso; omega)
     refine z1t 1000 rfl ?_
     exact z0g Tryz.func102 _ (z0j rfl rfl) ⟨rfl, rfl⟩
end Go.Proofs.YtjmbjgecfpggdaaGreatDoor
