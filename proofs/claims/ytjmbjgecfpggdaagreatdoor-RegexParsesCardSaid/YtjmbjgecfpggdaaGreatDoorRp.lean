/- A part of the proof: G1, G2, G3. -/
import Derived.Test.YtjmbjgecfpggdaaGreatDoorRt
set_option linter.all false
set_option linter.unusedVariables false
set_option linter.unusedSimpArgs false
namespace Go.Proofs.YtjmbjgecfpggdaaGreatDoor
open Go.Ab Go.Rx
set_option maxHeartbeats 20000000
set_option maxRecDepth 100000
attribute [local irreducible] Run Ops Op1 z2q Val Tr z1p z2j NF Rel z5b z5c
abbrev cnt (n : Int) : Blk := .box [I .i64 n]
theorem zvc (e : Rx) (d n : Int) (hd : 1 ≤ d) (h0 : 0 ≤ n) (h1 : n ≤ 200) (h : (sm e d n).1 = true) : 0 ≤ (sm e d n).2 ∧ (sm e d n).2 ≤ 200 := by
 have := zkh.1 e d n hd h0 h1
 split at this
 · rw [this]; simp only; omega
 · rw [this] at h; cases h
theorem znv {ks : List Rx} {i : Nat} {k : Rx} (h : ks[i]? = some k) (d n : Int) : smL (ks.drop i) d n = if (sm k d n).1 = true then smL (ks.drop (i + 1)) d (sm k d n).2 else (false, (sm k d n).2) := by
 rw [drop_cons h, smL]
/-- nodes are counted -/
theorem zqk (X : Nat) : ∀ (e : Rx), fit e → ∀ (d n : Int) (e0 : Nat), 1 ≤ d → d ≤ 100 → 0 ≤ n → n ≤ 200 → z2j Tryz.prog 28 [.d (Drx e), I .i64 d, .ptr (e0, X) 0] [((e0, X), cnt n)] [((e0, X), cnt (sm e d n).2)] (B (sm e d n).1) := by
 refine Rx.ind' fun op mn mx rs ks ih hfit d n e0 hd hd1 h0 h1 => ?_
 obtain ⟨hf1, hf2, hf3⟩ := hfit
 refine z2k fun H hH => ?_
 have hX : H e0 X = some (cnt n) := hH ((e0, X), cnt n) (by simp)
 refine z1c Tryz.func28 (by kernel_rfl) rfl (by simp) ?_
 rw [Drx, z1v, sm]
 dsimp only [Tryz.f28]
 by_cases hb : smB d (n + 1) = true
 · rw [if_pos hb]
   have hb' := hb
   simp only [smB, Bool.or_eq_true, decide_eq_true_eq] at hb'
   repeat' (first | (apply z0e; (first | refine z11 rfl (by decide) ?_ | (apply z0a; (first | refine z00 (z0u (b := cnt (n + 1)) rfl rfl rfl rfl) rfl (bkN (z02 H (e0, X) (cnt (n + 1)))) (by decide) ?_ | refine z00 (z0u (b := cnt n) rfl rfl rfl rfl) rfl (bkN hX) (by decide) ?_ | refine z00 (z0u rfl rfl rfl rfl) rfl rfl (by decide) ?_)) | (apply z07; (refine z00 (z04 rfl rfl) rfl rfl (by decide) ?_)) | (apply z13; (refine z00 (z19 (z1o (by omega) (by omega))) rfl rfl (by decide) ?_)) | (apply z1e; (refine z00 (z1q rfl) rfl rfl (by decide) ?_)) | (apply z05; (refine z0w (raw := cnt n) (raw' := cnt (n + 1)) rfl hX rfl rfl rfl rfl rfl rfl ?_)) | (apply z3b; (refine z0k (z6a rfl rfl rfl rfl rfl (by decide)) ?_)))) | (apply z0b; (first | refine z10 ?_ | apply z0d | refine z2f rfl rfl (by decide) ?_ | refine z16 rfl rfl (fun _ => ?_) (fun _ => ?_))) | (apply z0c; (first | apply z0f | apply z01 | refine z0r rfl ?_ | apply z09 | apply z03 | refine z1i rfl (fun _ => ?_) (fun _ => ?_))))
   all_goals try (exfalso; omega)
   all_goals exact z0g Tryz.func28 _ (z0j rfl rfl) ⟨rfl, rfl⟩
 · rw [if_neg hb]
   have hb' := hb
   simp only [smB, Bool.or_eq_true, decide_eq_true_eq, not_or] at hb'
   repeat' (first | (apply z0e; (first | refine z11 rfl (by decide) ?_ | (apply z0a; (first | refine z00 (z0u (b := cnt (n + 1)) rfl rfl rfl rfl) rfl (bkN (z02 H (e0, X) (cnt (n + 1)))) (by decide) ?_ | refine z00 (z0u (b := cnt n) rfl rfl rfl rfl) rfl (bkN hX) (by decide) ?_ | refine z00 (z0u rfl rfl rfl rfl) rfl rfl (by decide) ?_)) | (apply z07; (refine z00 (z04 rfl rfl) rfl rfl (by decide) ?_)) | (apply z13; (refine z00 (z19 (z1o (by omega) (by omega))) rfl rfl (by decide) ?_)) | (apply z1e; (refine z00 (z1q rfl) rfl rfl (by decide) ?_)) | (apply z05; (refine z0w (raw := cnt n) (raw' := cnt (n + 1)) rfl hX rfl rfl rfl rfl rfl rfl ?_)) | (apply z3b; (refine z0k (z6a rfl rfl rfl rfl rfl (by decide)) ?_)))) | (apply z0b; (first | refine z10 ?_ | apply z0d | refine z2f rfl rfl (by decide) ?_ | refine z16 rfl rfl (fun _ => ?_) (fun _ => ?_))) | (apply z0c; (first | apply z0f | apply z01 | refine z0r rfl ?_ | apply z09 | apply z03 | refine z1i rfl (fun _ => ?_) (fun _ => ?_))))
   all_goals try (exfalso; omega)
   refine z1x ?_
   refine z0s (z2u (fun q : Nat × Int => ⟨36, [(1, I .i64 d), (2, .ptr (e0 + 1, X) 0), (23, .d (.slice (ks.map rxc))), (24, I .i64 ks.length), (25, I .i64 (q.1 : Nat))], [], upd H (e0, X) (cnt q.2)⟩) (fun q => q.1 ≤ ks.length ∧ 0 ≤ q.2 ∧ q.2 ≤ 200 ∧ smL (ks.drop q.1) (d + 1) q.2 = smL ks (d + 1) (n + 1)) (fun q => ks.length - q.1) ?_ (0, n + 1) ⟨Nat.zero_le _, by simp only; omega, by simp only; omega, rfl⟩) rfl rfl
   rintro ⟨i, m⟩ ⟨i1, i2, i3, i4⟩ ihl
   simp only at i1 i2 i3 i4 ihl ⊢
   by_cases hlt : i < ks.length
   · obtain ⟨k, hk⟩ : ∃ k, ks[i]? = some k := ⟨_, List.getElem?_eq_getElem hlt⟩
     rw [znv hk] at i4
     have c := ih k (List.mem_of_getElem? hk) (z5z hf3 k (List.mem_of_getElem? hk)) (d + 1) m (e0 + 1) (by omega) (by omega) i2 i3
     have hle := zvc k (d + 1) m (by omega) i2 i3
     generalize sm k (d + 1) m = r at c i4 hle
     obtain ⟨rb, rn⟩ := r
     simp only at c i4 hle
     obtain ⟨op', mn', mx', rs', ks'⟩ := k
     have hk' := z3p hk
     rw [Drx, z1v] at c
     cases rb with
     | true =>
      obtain ⟨hle1, hle2⟩ := hle rfl
      rw [if_pos rfl] at i4
      repeat' (first | (apply z0e; (first | refine z11 rfl (by decide) ?_ | (apply z0a; (first | refine z00 (z14 rfl rfl) rfl rfl (by decide) ?_ | refine z00 (z15 rfl rfl rfl rfl) rfl rfl (by decide) ?_)) | (apply z1f; (refine z00 (z1b (ys := ks.map rxc) rfl (by omega) hk' rfl) rfl rfl (by decide) ?_)) | (apply z13; (refine z00 (z19 (z1o (by omega) (by omega))) rfl rfl (by decide) ?_)) | (apply z0o; (refine z3f c rfl (z02 H (e0, X) (cnt m)) (by decide) ?_)) | (apply z05; (refine z06 rfl rfl rfl rfl rfl rfl ?_)) | (apply z0n; (refine z0k (z0l rfl rfl (by decide)) ?_)))) | (apply z0b; (first | refine z10 ?_ | apply z0d)) | (apply z0c; (first | apply z0f | apply z01 | refine z0h rfl ?_ | apply z09 | apply z03 | apply z08 | refine z1i rfl (fun _ => ?_) (fun _ => ?_) | refine z0p rfl ?_)))
      all_goals try (exfalso; omega)
      rw [z0i]
      exact z0s (ihl (i + 1, rn) ⟨by simp only; omega, hle1, hle2, i4⟩ (by simp only; omega)) rfl rfl

     | false =>
      rw [if_neg (by simp)] at i4
      rw [← i4]
      repeat' (first | (apply z0e; (first | refine z11 rfl (by decide) ?_ | (apply z0a; (first | refine z00 (z14 rfl rfl) rfl rfl (by decide) ?_ | refine z00 (z15 rfl rfl rfl rfl) rfl rfl (by decide) ?_)) | (apply z1f; (refine z00 (z1b (ys := ks.map rxc) rfl (by omega) hk' rfl) rfl rfl (by decide) ?_)) | (apply z13; (refine z00 (z19 (z1o (by omega) (by omega))) rfl rfl (by decide) ?_)) | (apply z0o; (refine z3f c rfl (z02 H (e0, X) (cnt m)) (by decide) ?_)) | (apply z05; (refine z06 rfl rfl rfl rfl rfl rfl ?_)) | (apply z0n; (refine z0k (z0l rfl rfl (by decide)) ?_)))) | (apply z0b; (first | refine z10 ?_ | apply z0d)) | (apply z0c; (first | apply z0f | apply z01 | refine z0r rfl ?_ | apply z09 | apply z03 | refine z1i rfl (fun _ => ?_) (fun _ => ?_) | refine z0p rfl ?_)))
      all_goals try (exfalso; omega)
      refine z0g Tryz.func28 _ (z0j rfl rfl) ⟨rfl, ?_⟩
      exact z0i _ _ _ _
   · obtain rfl : i = ks.length := by omega
     rw [List.drop_length, smL] at i4
     rw [← i4]
     repeat' (first | (apply z0e; (refine z11 rfl (by decide) ?_)) | (apply z0b; (first | refine z10 ?_ | apply z0d)) | (apply z0c; (first | apply z0f | apply z01 | apply z09 | apply z03 | refine z1i rfl (fun _ => ?_) (fun _ => ?_) | refine z0p rfl ?_)))
     all_goals try (exfalso; omega)
     exact z0g Tryz.func28 _ (z0j rfl rfl) ⟨rfl, rfl⟩
end Go.Proofs.YtjmbjgecfpggdaaGreatDoor
namespace Go.Proofs.YtjmbjgecfpggdaaGreatDoor
open Go.Ab Go.Rx
set_option maxHeartbeats 20000000
set_option maxRecDepth 100000
attribute [local irreducible] Run Ops Op1 z2q Val Tr z1p z2j NF Rel z5b z5c
theorem zd2 {l : List Rg} {i : Nat} {r : Rg} (h : l[i]? = some r) (a : Int) : z8q a (l.drop i) = (decide (a ≤ r.1) && decide (r.1 ≤ r.2) && decide (r.2 ≤ 1114111) && z8q (r.2 + 2) (l.drop (i + 1))) := by
 rw [drop_cons h, z8q]
def prv (l : List Rg) (i : Nat) (a : Int) : Prop := (i = 0 ∧ a = 0) ∨ (0 < i ∧ ∃ p, l[i - 1]? = some p ∧ a = p.2 + 2 ∧ 0 ≤ p.2 ∧ p.2 ≤ 1114111)
theorem zja (l : List Rg) (hl : l.length ≤ 9223372036854775807) : z1p Tryz.prog 67 [.d (rgs l)] (B (zf2 l)) := by
 refine z2e fun H => ?_
 refine z1c Tryz.func67 (by kernel_rfl) rfl (by simp) ?_
 dsimp only [Tryz.f67]
 repeat' (first | (apply z0e; (first | refine z11 rfl (by decide) ?_ | (apply z1e; (refine z00 (z1q rfl) rfl rfl (by decide) ?_)))) | (apply z0b; (first | refine z10 ?_ | apply z0d)) | (apply z0c; (first | apply z0f | apply z01 | apply z03)))
 all_goals try (exfalso; omega)
 refine z1x ?_
 refine z0s (z2u (fun q : Nat × Int => ⟨47, [(0, .d (rgs l)), (5, .d (rgs l)), (6, I .i64 l.length), (7, I .i64 (q.1 : Nat))], [], H⟩) (fun q => q.1 ≤ l.length ∧ prv l q.1 q.2 ∧ z8q q.2 (l.drop q.1) = z8q 0 l) (fun q => l.length - q.1) ?_ (0, 0) ⟨Nat.zero_le _, .inl ⟨rfl, rfl⟩, rfl⟩) rfl rfl
 rintro ⟨i, a⟩ ⟨i1, i2, i3⟩ ih
 simp only at i1 i2 i3 ih ⊢
 by_cases hlt : i < l.length
 · obtain ⟨r, hr⟩ : ∃ r, l[i]? = some r := ⟨_, List.getElem?_eq_getElem hlt⟩
   rw [zd2 hr] at i3
   by_cases hgd : a ≤ r.1 ∧ r.1 ≤ r.2 ∧ r.2 ≤ 1114111
   · rw [decide_eq_true hgd.1, decide_eq_true hgd.2.1, decide_eq_true hgd.2.2, Bool.true_and, Bool.true_and, Bool.true_and] at i3
     rcases i2 with ⟨rfl, rfl⟩ | ⟨hi, p, hp, rfl, hp0, hp1⟩
     · repeat' (first | (apply z0e; (first | refine z11 rfl (by decide) ?_ | (apply z0a; (refine z00 (z14 rfl rfl) rfl rfl (by decide) ?_)) | (apply z1f; (refine z00 (z1b (ys := l.map rgc) rfl (by omega) (idx hr) rfl) rfl rfl (by decide) ?_)) | (apply z13; (refine z00 (z19 (z1o (by omega) (by omega))) rfl rfl (by decide) ?_)) | (apply z1e; (refine z00 (z1q rfl) rfl rfl (by decide) ?_)) | (apply z05; (refine z06 rfl rfl rfl rfl rfl rfl ?_)) | (apply z0n; (refine z0k (z0l rfl rfl (by decide)) ?_)))) | (apply z0b; (first | refine z10 ?_ | apply z0d)) | (apply z0c; (first | apply z0f | apply z01 | refine z0r rfl ?_ | refine z0h rfl ?_ | apply z09 | apply z03 | apply z56 | apply z08 | refine z1i rfl (fun _ => ?_) (fun _ => ?_) | refine z0p rfl ?_)) | (apply z57; (first | (apply z2g; refine z3o mix (by kernel_rfl) ?_) | refine z4j rfl rfl (by decide) ?_ | refine z7l rfl rfl (by decide) ?_ | refine z5i rfl (by first | exact rfl | exact ⟨_, rfl, rfl, rfl⟩) (by decide) ?_ | (apply z1r; (refine z1d (z0u rfl rfl rfl rfl) (by first | exact rfl | exact ⟨_, rfl, rfl, rfl⟩) rfl rfl (by decide) ?_)) | (apply z1l; (refine z1d (z04 rfl rfl) (by first | exact rfl | exact ⟨_, rfl, rfl, rfl⟩) rfl rfl (by decide) ?_)) | (refine z3i rfl rfl (fun hg => ?_) (fun hg => ?_) <;> simp only [hg] <;> (try simp only [decide_eq_true_eq, decide_eq_false_iff_not, Bool.not_eq_true', Bool.not_eq_false'] at hg)))))
       all_goals try (exfalso; omega)
       all_goals exact z0s (ih (1, r.2 + 2) ⟨by simp only; omega, .inr ⟨by simp, r, hr, rfl, by omega, hgd.2.2⟩, i3⟩ (by simp only; omega)) rfl rfl
     · have hp' : l[((i : Int) - 1).toNat]? = some p := by rw [← hp]; congr 1; omega
       repeat' (first | (apply z0e; (first | refine z11 rfl (by decide) ?_ | (apply z0a; (refine z00 (z14 rfl rfl) rfl rfl (by decide) ?_)) | (apply z1f; (refine z00 (z1b (ys := l.map rgc) rfl (by omega) (idx hr) rfl) rfl rfl (by decide) ?_)) | (apply z13; (refine z00 (z19 (z1o (by omega) (by omega))) rfl rfl (by decide) ?_)) | (apply z1e; (refine z00 (z1q rfl) rfl rfl (by decide) ?_)) | (apply z05; (refine z06 rfl rfl rfl rfl rfl rfl ?_)) | (apply z0n; (refine z0k (z0l rfl rfl (by decide)) ?_)))) | (apply z0b; (first | refine z10 ?_ | apply z0d)) | (apply z0c; (first | apply z0f | apply z01 | refine z0r rfl ?_ | refine z0h rfl ?_ | apply z09 | apply z03 | apply z56 | apply z08 | refine z1i rfl (fun _ => ?_) (fun _ => ?_) | refine z0p rfl ?_)) | (apply z57; (first | (apply z2g; refine z3o mix (by kernel_rfl) ?_) | refine z4j rfl rfl (by decide) ?_ | refine z7l rfl rfl (by decide) ?_ | refine z5i rfl (by first | exact rfl | exact ⟨_, rfl, rfl, rfl⟩) (by decide) ?_ | (apply z1r; (first | refine z1d (z0u rfl rfl rfl rfl) (by first | exact rfl | exact ⟨_, rfl, rfl, rfl⟩) rfl rfl (by decide) ?_ | refine z1d (z4s rfl rfl rfl) (by first | exact rfl | exact ⟨_, rfl, rfl, rfl⟩) rfl rfl (by decide) ?_)) | (apply z1l; (first | refine z1d (z04 rfl rfl) (by first | exact rfl | exact ⟨_, rfl, rfl, rfl⟩) rfl rfl (by decide) ?_ | refine z1d (z7v rfl rfl) (by first | exact rfl | exact ⟨_, rfl, rfl, rfl⟩) rfl rfl (by decide) ?_)) | (apply z47; (refine z1d (z1b (ys := l.map rgc) rfl (by omega) (zud hp') rfl) (by first | exact rfl | exact ⟨_, rfl, rfl, rfl⟩) rfl rfl (by decide) ?_)) | (apply z5g; (first | refine z1d (z19 (za2 (by omega) (by omega))) (by first | exact rfl | exact ⟨_, rfl, rfl, rfl⟩) rfl rfl (by decide) ?_ | refine z1d (z42 (z1o (by omega) (by omega))) (by first | exact rfl | exact ⟨_, rfl, rfl, rfl⟩) rfl rfl (by decide) ?_)) | (refine z3i rfl rfl (fun hg => ?_) (fun hg => ?_) <;> simp only [hg] <;> (try simp only [decide_eq_true_eq, decide_eq_false_iff_not, Bool.not_eq_true', Bool.not_eq_false'] at hg)))))
       all_goals try (exfalso; omega)
       all_goals exact z0s (ih (i + 1, r.2 + 2) ⟨by simp only; omega, .inr ⟨by simp, r, by simpa using hr, rfl, by omega, hgd.2.2⟩, i3⟩ (by simp only; omega)) rfl rfl
   · have hb : zf2 l = false := by
      rw [zf2, ← i3]
      have : (decide (a ≤ r.1) && decide (r.1 ≤ r.2) && decide (r.2 ≤ 1114111)) = false := by
       rw [← Bool.decide_and, ← Bool.decide_and, decide_eq_false_iff_not]
       exact fun h => hgd ⟨h.1.1, h.1.2, h.2⟩
      rw [this]; rfl
     rw [hb]
     rcases i2 with ⟨rfl, rfl⟩ | ⟨hi, p, hp, rfl, hp0, hp1⟩
     · repeat' (first | (apply z0e; (first | refine z11 rfl (by decide) ?_ | (apply z0a; (refine z00 (z14 rfl rfl) rfl rfl (by decide) ?_)) | (apply z1f; (refine z00 (z1b (ys := l.map rgc) rfl (by omega) (idx hr) rfl) rfl rfl (by decide) ?_)) | (apply z13; (refine z00 (z19 (z1o (by omega) (by omega))) rfl rfl (by decide) ?_)) | (apply z1e; (refine z00 (z1q rfl) rfl rfl (by decide) ?_)) | (apply z05; (refine z06 rfl rfl rfl rfl rfl rfl ?_)) | (apply z0n; (refine z0k (z0l rfl rfl (by decide)) ?_)))) | (apply z0b; (first | refine z10 ?_ | apply z0d)) | (apply z0c; (first | apply z0f | apply z01 | refine z0r rfl ?_ | refine z0h rfl ?_ | apply z09 | apply z03 | apply z56 | apply z08 | refine z1i rfl (fun _ => ?_) (fun _ => ?_) | refine z0p rfl ?_)) | (apply z57; (first | (apply z2g; refine z3o mix (by kernel_rfl) ?_) | refine z4j rfl rfl (by decide) ?_ | refine z7l rfl rfl (by decide) ?_ | refine z5i rfl (by first | exact rfl | exact ⟨_, rfl, rfl, rfl⟩) (by decide) ?_ | (apply z1r; (refine z1d (z0u rfl rfl rfl rfl) (by first | exact rfl | exact ⟨_, rfl, rfl, rfl⟩) rfl rfl (by decide) ?_)) | (apply z1l; (refine z1d (z04 rfl rfl) (by first | exact rfl | exact ⟨_, rfl, rfl, rfl⟩) rfl rfl (by decide) ?_)) | (refine z3i rfl rfl (fun hg => ?_) (fun hg => ?_) <;> simp only [hg] <;> (try simp only [decide_eq_true_eq, decide_eq_false_iff_not, Bool.not_eq_true', Bool.not_eq_false'] at hg)))))
       all_goals try (exfalso; omega)
       all_goals exact z0g Tryz.func67 _ (z0j rfl rfl) ⟨rfl, rfl⟩
     · have hp' : l[((i : Int) - 1).toNat]? = some p := by rw [← hp]; congr 1; omega
       repeat' (first | (apply z0e; (first | refine z11 rfl (by decide) ?_ | (apply z0a; (refine z00 (z14 rfl rfl) rfl rfl (by decide) ?_)) | (apply z1f; (refine z00 (z1b (ys := l.map rgc) rfl (by omega) (idx hr) rfl) rfl rfl (by decide) ?_)) | (apply z13; (refine z00 (z19 (z1o (by omega) (by omega))) rfl rfl (by decide) ?_)) | (apply z1e; (refine z00 (z1q rfl) rfl rfl (by decide) ?_)) | (apply z05; (refine z06 rfl rfl rfl rfl rfl rfl ?_)) | (apply z0n; (refine z0k (z0l rfl rfl (by decide)) ?_)))) | (apply z0b; (first | refine z10 ?_ | apply z0d)) | (apply z0c; (first | apply z0f | apply z01 | refine z0r rfl ?_ | refine z0h rfl ?_ | apply z09 | apply z03 | apply z56 | apply z08 | refine z1i rfl (fun _ => ?_) (fun _ => ?_) | refine z0p rfl ?_)) | (apply z57; (first | (apply z2g; refine z3o mix (by kernel_rfl) ?_) | refine z4j rfl rfl (by decide) ?_ | refine z7l rfl rfl (by decide) ?_ | refine z5i rfl (by first | exact rfl | exact ⟨_, rfl, rfl, rfl⟩) (by decide) ?_ | (apply z1r; (first | refine z1d (z0u rfl rfl rfl rfl) (by first | exact rfl | exact ⟨_, rfl, rfl, rfl⟩) rfl rfl (by decide) ?_ | refine z1d (z4s rfl rfl rfl) (by first | exact rfl | exact ⟨_, rfl, rfl, rfl⟩) rfl rfl (by decide) ?_)) | (apply z1l; (first | refine z1d (z04 rfl rfl) (by first | exact rfl | exact ⟨_, rfl, rfl, rfl⟩) rfl rfl (by decide) ?_ | refine z1d (z7v rfl rfl) (by first | exact rfl | exact ⟨_, rfl, rfl, rfl⟩) rfl rfl (by decide) ?_)) | (apply z47; (refine z1d (z1b (ys := l.map rgc) rfl (by omega) (zud hp') rfl) (by first | exact rfl | exact ⟨_, rfl, rfl, rfl⟩) rfl rfl (by decide) ?_)) | (apply z5g; (first | refine z1d (z19 (za2 (by omega) (by omega))) (by first | exact rfl | exact ⟨_, rfl, rfl, rfl⟩) rfl rfl (by decide) ?_ | refine z1d (z42 (z1o (by omega) (by omega))) (by first | exact rfl | exact ⟨_, rfl, rfl, rfl⟩) rfl rfl (by decide) ?_)) | (refine z3i rfl rfl (fun hg => ?_) (fun hg => ?_) <;> simp only [hg] <;> (try simp only [decide_eq_true_eq, decide_eq_false_iff_not, Bool.not_eq_true', Bool.not_eq_false'] at hg)))))
       all_goals try (exfalso; omega)
       all_goals exact z0g Tryz.func67 _ (z0j rfl rfl) ⟨rfl, rfl⟩
 · obtain rfl : i = l.length := by omega
   rw [List.drop_length, z8q] at i3
   rw [zf2, ← i3, Bool.true_and]
   repeat' (first | (apply z0e; (first | refine z11 rfl (by decide) ?_ | (apply z1e; (refine z00 (z1q rfl) rfl rfl (by decide) ?_)))) | (apply z0b; (first | refine z10 ?_ | apply z0d)) | (apply z0c; (first | apply z0f | apply z01 | apply z09 | apply z03 | refine z1i rfl (fun _ => ?_) (fun _ => ?_) | refine z0p rfl ?_)))
   all_goals try (exfalso; omega)
   refine z0g Tryz.func67 _ (z0j rfl rfl) ⟨?_, rfl⟩
   congr 3; simp
theorem zc9 {op : Int} {ks : List Rx} {i : Nat} {k : Rx} (h : ks[i]? = some k) : z5o op (ks.take (i + 1)) = (z5o op (ks.take i) && !decide (k.op = op)) := by
 rw [z6g h, z5o, List.all_append]; simp [z5o]
theorem zd6 {op : Int} {ks : List Rx} {i : Nat} {k : Rx} (h : ks[i]? = some k) (hk : k.op = op) : z5o op ks = false := by
 rw [Bool.eq_false_iff]
 intro h2
 have := List.all_eq_true.1 h2 k (List.mem_of_getElem? h)
 rw [hk] at this; simp at this
theorem znn {op mn mx : Int} {rs : List Rg} {ks : List Rx} (h : (op ≠ 1 ∧ 0 < rs.length) ∨ (op ≠ 4 ∧ (mn ≠ 0 ∨ mx ≠ 0))) : vn (.mk op mn mx rs ks) = false := by
 rw [Bool.eq_false_iff]
 intro h2
 rcases z4x h2 with ⟨rfl, rfl, rfl, rfl, _⟩ | ⟨rfl, rfl, rfl, rfl, _⟩ | ⟨rfl, rfl, rfl, rfl, _⟩ | ⟨rfl, rfl, _⟩ <;> simp at h <;> omega
theorem zsc {op mn mx : Int} {rs : List Rg} {ks : List Rx} {i : Nat} {k : Rx} (hk : ks[i]? = some k) (h : k.op = op) (h4 : op ≠ 4) : vn (.mk op mn mx rs ks) = false := by
 rw [Bool.eq_false_iff]
 intro h2
 rcases z4x h2 with ⟨rfl, rfl, rfl, rfl, _⟩ | ⟨rfl, rfl, rfl, rfl, _, h3⟩ | ⟨rfl, rfl, rfl, rfl, _, h3⟩ | ⟨rfl, _⟩
 · simp at hk
 · rw [zd6 hk h] at h3; cases h3
 · rw [zd6 hk h] at h3; cases h3
 · exact h4 rfl
theorem zru {op mn mx : Int} {rs : List Rg} {ks : List Rx} (he : ¬ ((op ≠ 1 ∧ 0 < rs.length) ∨ (op ≠ 4 ∧ (mn ≠ 0 ∨ mx ≠ 0)))) (h : op = 4 ∨ z5o op ks = true) : vn (.mk op mn mx rs ks) =
  if op = 1 then decide (ks.length = 0) && zf2 rs else if op = 2 then !decide (ks.length = 1) else if op = 3 then decide (1 < ks.length)
  else if op = 4 then decide (ks.length = 1) && decide (0 ≤ mn) && decide (mn ≤ 16) && (decide (mx = -1) || (decide (mn ≤ mx) && decide (mx ≤ 16))) else false := by
 rw [vn]
 have hrs : op ≠ 1 → rs.length = 0 := by omega
 by_cases o4 : op = 4
 · subst o4; simp [hrs]
 have hk := h.resolve_left o4
 have hmn : mn = 0 := by omega
 have hmx : mx = 0 := by omega
 subst hmn hmx
 by_cases o1 : op = 1
 · subst o1; simp
 have := hrs o1
 simp [o1, o4, hk, this]
theorem zgu (op mn mx : Int) (rs : List Rg) (ks : List Rx) (hr : rs.length ≤ 9223372036854775807) (hk : ks.length ≤ 9223372036854775807) : z1p Tryz.prog 49 [.d (.agg (rx5 op mn mx rs ks))] (B (vn (.mk op mn mx rs ks))) := by
 refine z2e fun H => ?_
 refine z1c Tryz.func49 (by kernel_rfl) rfl (by simp) ?_
 dsimp only [Tryz.f49]
 by_cases he : (op ≠ 1 ∧ 0 < rs.length) ∨ (op ≠ 4 ∧ (mn ≠ 0 ∨ mx ≠ 0))
 · rw [znn he]
   repeat' (first | (apply z0e; (first | refine z11 rfl (by decide) ?_ | (apply z0a; (refine z00 (z0u rfl rfl rfl rfl) rfl rfl (by decide) ?_)) | (apply z07; (refine z00 (z04 rfl rfl) rfl rfl (by decide) ?_)) | (apply z1e; (refine z00 (z1q rfl) rfl rfl (by decide) ?_)) | (apply z3b; (refine z0k (z6a rfl rfl rfl rfl rfl (by decide)) ?_)))) | (apply z0b; (first | refine z10 ?_ | apply z0d | refine z2f rfl rfl (by decide) ?_ | refine z7i rfl rfl (by decide) ?_ | refine z16 rfl rfl (fun _ => ?_) (fun _ => ?_) | refine z2s rfl rfl (fun _ => ?_) (fun _ => ?_))) | (apply z0c; (first | apply z0f | apply z01 | refine z0r rfl ?_ | refine z0h rfl ?_ | apply z09 | apply z03 | refine z2i rfl (fun _ => ?_) (fun _ => ?_))))
   all_goals try (exfalso; omega)
   all_goals exact z0g Tryz.func49 _ (z0j rfl rfl) ⟨rfl, rfl⟩
 repeat' (first | (apply z0e; (first | refine z11 rfl (by decide) ?_ | (apply z0a; (refine z00 (z0u rfl rfl rfl rfl) rfl rfl (by decide) ?_)) | (apply z07; (refine z00 (z04 rfl rfl) rfl rfl (by decide) ?_)) | (apply z1e; (refine z00 (z1q rfl) rfl rfl (by decide) ?_)) | (apply z3b; (refine z0k (z6a rfl rfl rfl rfl rfl (by decide)) ?_)))) | (apply z0b; (first | refine z10 ?_ | apply z0d | refine z2f rfl rfl (by decide) ?_ | refine z7i rfl rfl (by decide) ?_ | refine z16 rfl rfl (fun _ => ?_) (fun _ => ?_) | refine z2s rfl rfl (fun _ => ?_) (fun _ => ?_))) | (apply z0c; (first | apply z0f | apply z01 | refine z0r rfl ?_ | refine z0h rfl ?_ | apply z09 | apply z03 | refine z2i rfl (fun _ => ?_) (fun _ => ?_))))
 all_goals try (exfalso; omega)
 all_goals (
  refine z1x ?_
  refine z0s (z2u (fun i : Nat => ⟨101, [(1, .ptr (0, 1) 0), (3, I .i64 ks.length), (34, .d (.slice (ks.map rxc))), (35, I .i64 ks.length), (36, I .i64 (i : Nat))], [(1, .box ((rx5 op mn mx rs ks).map .d))], H⟩) (fun i => i ≤ ks.length ∧ (op = 4 ∨ z5o op (ks.take i) = true)) (fun i => ks.length - i) ?_ 0 ⟨Nat.zero_le _, .inr rfl⟩) rfl rfl
  rintro i ⟨i1, i2⟩ ihl
  by_cases hlt : i < ks.length
  · obtain ⟨k, hk2⟩ : ∃ k, ks[i]? = some k := ⟨_, List.getElem?_eq_getElem hlt⟩
    obtain ⟨op', mn', mx', rs', ks'⟩ := k
    have hk' := z3p hk2
    have hkt := zc9 (op := op) hk2
    by_cases hbad : op' = op ∧ op ≠ 4
    · rw [zsc hk2 hbad.1 hbad.2]
      repeat' (first | (apply z0e; (first | refine z11 rfl (by decide) ?_ | (apply z0a; (first | refine z00 (z0u rfl rfl rfl rfl) rfl rfl (by decide) ?_ | refine z00 (z14 rfl rfl) rfl rfl (by decide) ?_)) | (apply z07; (refine z00 (z04 rfl rfl) rfl rfl (by decide) ?_)) | (apply z1f; (refine z00 (z1b (ys := ks.map rxc) rfl (by omega) hk' rfl) rfl rfl (by decide) ?_)) | (apply z13; (refine z00 (z19 (z1o (by omega) (by omega))) rfl rfl (by decide) ?_)) | (apply z05; (refine z06 rfl rfl rfl rfl rfl rfl ?_)) | (apply z0n; (refine z0k (z0l rfl rfl (by decide)) ?_)))) | (apply z0b; (first | refine z10 ?_ | apply z0d | refine z2f rfl rfl (by decide) ?_ | refine z7i rfl rfl (by decide) ?_ | refine z16 rfl rfl (fun _ => ?_) (fun _ => ?_))) | (apply z0c; (first | apply z0f | apply z01 | refine z0h rfl ?_ | apply z09 | apply z03 | apply z08 | refine z1i rfl (fun _ => ?_) (fun _ => ?_) | refine z2i rfl (fun _ => ?_) (fun _ => ?_) | refine z0p rfl ?_)))
      all_goals try (exfalso; omega)
      all_goals exact z0g Tryz.func49 _ (z0j rfl rfl) ⟨rfl, rfl⟩
    · repeat' (first | (apply z0e; (first | refine z11 rfl (by decide) ?_ | (apply z0a; (first | refine z00 (z0u rfl rfl rfl rfl) rfl rfl (by decide) ?_ | refine z00 (z14 rfl rfl) rfl rfl (by decide) ?_)) | (apply z07; (refine z00 (z04 rfl rfl) rfl rfl (by decide) ?_)) | (apply z1f; (refine z00 (z1b (ys := ks.map rxc) rfl (by omega) hk' rfl) rfl rfl (by decide) ?_)) | (apply z13; (refine z00 (z19 (z1o (by omega) (by omega))) rfl rfl (by decide) ?_)) | (apply z05; (refine z06 rfl rfl rfl rfl rfl rfl ?_)) | (apply z0n; (refine z0k (z0l rfl rfl (by decide)) ?_)))) | (apply z0b; (first | refine z10 ?_ | apply z0d | refine z2f rfl rfl (by decide) ?_ | refine z7i rfl rfl (by decide) ?_ | refine z16 rfl rfl (fun _ => ?_) (fun _ => ?_))) | (apply z0c; (first | apply z0f | apply z01 | refine z0h rfl ?_ | apply z09 | apply z03 | apply z08 | refine z1i rfl (fun _ => ?_) (fun _ => ?_) | refine z2i rfl (fun _ => ?_) (fun _ => ?_) | refine z0p rfl ?_)))
      all_goals try (exfalso; omega)
      all_goals exact z0s (ihl (i + 1) ⟨by omega, by
       by_cases h4 : op = 4
       · exact .inl h4
       · rw [hkt, i2.resolve_left h4, Bool.true_and, Bool.not_eq_true', decide_eq_false_iff_not]
         exact .inr fun h2 => hbad ⟨h2, h4⟩⟩ (by omega)) rfl rfl
  · obtain rfl : i = ks.length := by omega
    rw [List.take_length] at i2
    have cv := zja rs hr
    clear ihl
    have hvl := zru he i2
    by_cases o1 : op = 1
    · subst o1
      repeat' (first | (apply z0e; (first | refine z11 rfl (by decide) ?_ | (apply z0a; (refine z00 (z0u rfl rfl rfl rfl) rfl rfl (by decide) ?_)) | (apply z07; (refine z00 (z04 rfl rfl) rfl rfl (by decide) ?_)) | (apply z0o; (refine z2v cv rfl (by decide) ?_)))) | (apply z0b; (first | refine z10 ?_ | apply z0d | refine z2f rfl rfl (by decide) ?_ | refine z16 rfl rfl (fun _ => ?_) (fun _ => ?_))) | (apply z0c; (first | apply z0f | apply z01 | refine z0r rfl ?_ | apply z09 | apply z03 | refine z1i rfl (fun _ => ?_) (fun _ => ?_) | refine z0p rfl ?_)))
      all_goals try (exfalso; omega)
      all_goals (refine z0g Tryz.func49 _ (z0j rfl rfl) ⟨?_, rfl⟩; rw [hvl]; simp_all <;> omega)
    by_cases o2 : op = 2
    · subst o2
      repeat' (first | (apply z0e; (first | refine z11 rfl (by decide) ?_ | (apply z0a; (refine z00 (z0u rfl rfl rfl rfl) rfl rfl (by decide) ?_)) | (apply z07; (refine z00 (z04 rfl rfl) rfl rfl (by decide) ?_)))) | (apply z0b; (first | refine z10 ?_ | apply z0d)) | (apply z0c; (first | apply z0f | apply z01 | refine z0r rfl ?_ | refine z0h rfl ?_ | apply z09 | apply z03 | refine z1i rfl (fun _ => ?_) (fun _ => ?_) | refine z0p rfl ?_)))
      all_goals try (exfalso; omega)
      all_goals (refine z0g Tryz.func49 _ (z0j rfl rfl) ⟨?_, rfl⟩; rw [hvl]; simp_all <;> omega)
    by_cases o3 : op = 3
    · subst o3
      repeat' (first | (apply z0e; (first | refine z11 rfl (by decide) ?_ | (apply z0a; (refine z00 (z0u rfl rfl rfl rfl) rfl rfl (by decide) ?_)) | (apply z07; (refine z00 (z04 rfl rfl) rfl rfl (by decide) ?_)))) | (apply z0b; (first | refine z10 ?_ | apply z0d)) | (apply z0c; (first | apply z0f | apply z01 | refine z0r rfl ?_ | refine z0h rfl ?_ | apply z09 | apply z03 | refine z1i rfl (fun _ => ?_) (fun _ => ?_) | refine z0p rfl ?_)))
      all_goals try (exfalso; omega)
      all_goals (refine z0g Tryz.func49 _ (z0j rfl rfl) ⟨?_, rfl⟩; rw [hvl]; simp_all <;> omega)
    by_cases o4 : op = 4
    · subst o4
      repeat' (first | (apply z0e; (first | refine z11 rfl (by decide) ?_ | (apply z0a; (refine z00 (z0u rfl rfl rfl rfl) rfl rfl (by decide) ?_)) | (apply z07; (refine z00 (z04 rfl rfl) rfl rfl (by decide) ?_)))) | (apply z0b; (first | refine z10 ?_ | apply z0d | refine z2f rfl rfl (by decide) ?_ | refine z7i rfl rfl (by decide) ?_ | refine z16 rfl rfl (fun _ => ?_) (fun _ => ?_))) | (apply z0c; (first | apply z0f | apply z01 | refine z0r rfl ?_ | refine z0h rfl ?_ | apply z09 | apply z03 | refine z1i rfl (fun _ => ?_) (fun _ => ?_) | refine z0p rfl ?_)))
      all_goals try (exfalso; omega)
      all_goals (refine z0g Tryz.func49 _ (z0j rfl rfl) ⟨?_, rfl⟩; rw [hvl]; simp_all <;> omega)
    · repeat' (first | (apply z0e; (first | refine z11 rfl (by decide) ?_ | (apply z0a; (refine z00 (z0u rfl rfl rfl rfl) rfl rfl (by decide) ?_)) | (apply z07; (refine z00 (z04 rfl rfl) rfl rfl (by decide) ?_)))) | (apply z0b; (first | refine z10 ?_ | apply z0d | refine z2f rfl rfl (by decide) ?_ | refine z7i rfl rfl (by decide) ?_ | refine z16 rfl rfl (fun _ => ?_) (fun _ => ?_))) | (apply z0c; (first | apply z0f | apply z01 | apply z09 | apply z03 | apply z08 | refine z1i rfl (fun _ => ?_) (fun _ => ?_) | refine z0p rfl ?_)))
      all_goals try (exfalso; omega)
      all_goals (refine z0g Tryz.func49 _ (z0j rfl rfl) ⟨?_, rfl⟩; rw [hvl]; simp_all <;> omega))
end Go.Proofs.YtjmbjgecfpggdaaGreatDoor
namespace Go.Proofs.YtjmbjgecfpggdaaGreatDoor
open Go.Ab Go.Rx
set_option maxHeartbeats 20000000
set_option maxRecDepth 100000
attribute [local irreducible] Run Ops Op1 z2q Val Tr z1p z2j NF Rel z5b z5c
theorem zl5 {ks : List Rx} {i : Nat} {k : Rx} (h : ks[i]? = some k) : zat (ks.drop i) = (vns k && zat (ks.drop (i + 1))) := by rw [drop_cons h, zat]
theorem zew : ∀ (e : Rx), fit e → z1p Tryz.prog 29 [.d (Drx e)] (B (vns e)) := by
 refine Rx.ind' fun op mn mx rs ks ih hfit => ?_
 obtain ⟨hf1, hf2, hf3⟩ := hfit
 refine z2e fun H => ?_
 refine z1c Tryz.func29 (by kernel_rfl) rfl (by simp) ?_
 rw [Drx, z1v, vns]
 dsimp only [Tryz.f29]
 have cv := zgu op mn mx rs ks hf1 hf2
 cases hv : vn (.mk op mn mx rs ks) with
 | false =>
  rw [hv] at cv
  repeat' (first | (apply z0e; (first | refine z11 rfl (by decide) ?_ | (apply z0a; (refine z00 (z3r rfl rfl rfl) rfl rfl (by decide) ?_)) | (apply z0o; (refine z2v cv rfl (by decide) ?_)) | (apply z3b; (refine z0k (z6a rfl rfl rfl rfl rfl (by decide)) ?_)))) | (apply z0b; (first | refine z10 ?_ | apply z0d)) | (apply z0c; (first | apply z0f | apply z01 | refine z0r rfl ?_)))
  all_goals try (exfalso; omega)
  exact z0g Tryz.func29 _ (z0j rfl rfl) ⟨rfl, rfl⟩
 | true =>
  rw [hv] at cv
  rw [Bool.true_and]
  repeat' (first | (apply z0e; (first | refine z11 rfl (by decide) ?_ | (apply z0a; (first | refine z00 (z3r rfl rfl rfl) rfl rfl (by decide) ?_ | refine z00 (z0u rfl rfl rfl rfl) rfl rfl (by decide) ?_)) | (apply z07; (refine z00 (z04 rfl rfl) rfl rfl (by decide) ?_)) | (apply z1e; (refine z00 (z1q rfl) rfl rfl (by decide) ?_)) | (apply z0o; (refine z2v cv rfl (by decide) ?_)) | (apply z3b; (refine z0k (z6a rfl rfl rfl rfl rfl (by decide)) ?_)))) | (apply z0b; (first | refine z10 ?_ | apply z0d)) | (apply z0c; (first | apply z0f | apply z01 | refine z0h rfl ?_ | apply z09 | apply z03)))
  all_goals try (exfalso; omega)
  refine z1x ?_
  refine z0s (z2u (fun i : Nat => ⟨19, [(9, .d (.slice (ks.map rxc))), (10, I .i64 ks.length), (11, I .i64 (i : Nat))], [], H⟩) (fun i => i ≤ ks.length ∧ zat (ks.drop i) = zat ks) (fun i => ks.length - i) ?_ 0 ⟨Nat.zero_le _, rfl⟩) rfl rfl
  rintro i ⟨i1, i2⟩ ihl
  by_cases hlt : i < ks.length
  · obtain ⟨k, hk⟩ : ∃ k, ks[i]? = some k := ⟨_, List.getElem?_eq_getElem hlt⟩
    have c := ih k (List.mem_of_getElem? hk) (z5z hf3 k (List.mem_of_getElem? hk))
    rw [zl5 hk] at i2
    cases hvk : vns k with
    | true =>
     rw [hvk] at c i2
     rw [Bool.true_and] at i2
     obtain ⟨op', mn', mx', rs', ks'⟩ := k
     have hk' := z3p hk
     rw [Drx, z1v] at c
     repeat' (first | (apply z0e; (first | refine z11 rfl (by decide) ?_ | (apply z0a; (first | refine z00 (z14 rfl rfl) rfl rfl (by decide) ?_ | refine z00 (z15 rfl rfl rfl rfl) rfl rfl (by decide) ?_)) | (apply z1f; (refine z00 (z1b (ys := ks.map rxc) rfl (by omega) hk' rfl) rfl rfl (by decide) ?_)) | (apply z13; (refine z00 (z19 (z1o (by omega) (by omega))) rfl rfl (by decide) ?_)) | (apply z0o; (refine z2v c rfl (by decide) ?_)) | (apply z05; (refine z06 rfl rfl rfl rfl rfl rfl ?_)) | (apply z0n; (refine z0k (z0l rfl rfl (by decide)) ?_)))) | (apply z0b; (first | refine z10 ?_ | apply z0d)) | (apply z0c; (first | apply z0f | apply z01 | refine z0h rfl ?_ | apply z09 | apply z03 | apply z08 | refine z1i rfl (fun _ => ?_) (fun _ => ?_) | refine z0p rfl ?_)))
     all_goals try (exfalso; omega)
     exact z0s (ihl (i + 1) ⟨by omega, i2⟩ (by omega)) rfl rfl
    | false =>
     rw [hvk] at c i2
     rw [Bool.false_and] at i2
     obtain ⟨op', mn', mx', rs', ks'⟩ := k
     have hk' := z3p hk
     rw [Drx, z1v] at c
     repeat' (first | (apply z0e; (first | refine z11 rfl (by decide) ?_ | (apply z0a; (first | refine z00 (z14 rfl rfl) rfl rfl (by decide) ?_ | refine z00 (z15 rfl rfl rfl rfl) rfl rfl (by decide) ?_)) | (apply z1f; (refine z00 (z1b (ys := ks.map rxc) rfl (by omega) hk' rfl) rfl rfl (by decide) ?_)) | (apply z0o; (refine z2v c rfl (by decide) ?_)) | (apply z05; (refine z06 rfl rfl rfl rfl rfl rfl ?_)) | (apply z0n; (refine z0k (z0l rfl rfl (by decide)) ?_)))) | (apply z0b; (first | refine z10 ?_ | apply z0d)) | (apply z0c; (first | apply z0f | apply z01 | refine z0r rfl ?_ | apply z09 | apply z03 | refine z1i rfl (fun _ => ?_) (fun _ => ?_) | refine z0p rfl ?_)))
     all_goals try (exfalso; omega)
     refine z0g Tryz.func29 _ (z0j rfl rfl) ⟨?_, rfl⟩
     rw [← i2]
  · obtain rfl : i = ks.length := by omega
    rw [List.drop_length, zat] at i2
    repeat' (first | (apply z0e; (refine z11 rfl (by decide) ?_)) | (apply z0b; (first | refine z10 ?_ | apply z0d)) | (apply z0c; (first | apply z0f | apply z01 | apply z09 | apply z03 | refine z1i rfl (fun _ => ?_) (fun _ => ?_) | refine z0p rfl ?_)))
    all_goals try (exfalso; omega)
    refine z0g Tryz.func29 _ (z0j rfl rfl) ⟨?_, rfl⟩
    rw [← i2]
theorem zp8 {C : Int} (hC : 1 ≤ C) (e : Rx) (h : vns e = true) : 0 ≤ ps C e ∧ ps C e ≤ C := by
 rw [(zr7 hC).1 e h]
 have := zck.1 e h
 omega
theorem zh3 {C : Int} {ks : List Rx} {i : Nat} {k : Rx} (h : ks[i]? = some k) (n : Int) : psL C (ks.drop i) n = psL C (ks.drop (i + 1)) (min (n + ps C k) C) := by rw [drop_cons h, psL]
theorem zbm : ∀ (e : Rx), fit e → vns e = true → z1p Tryz.prog 30 [.d (Drx e)] (I .i64 (ps 65 e)) := by
 refine Rx.ind' fun op mn mx rs ks ih hfit hv => ?_
 obtain ⟨hf1, hf2, hf3⟩ := hfit
 rw [vns, Bool.and_eq_true] at hv
 refine z2e fun H => ?_
 refine z1c Tryz.func30 (by kernel_rfl) rfl (by simp) ?_
 rw [Drx, z1v, ps]
 dsimp only [Tryz.f30]
 by_cases o1 : op = 1
 · rw [if_pos o1]
   repeat' (first | (apply z0e; (first | refine z11 rfl (by decide) ?_ | (apply z0a; (refine z00 (z0u rfl rfl rfl rfl) rfl rfl (by decide) ?_)) | (apply z07; (refine z00 (z04 rfl rfl) rfl rfl (by decide) ?_)) | (apply z1e; (refine z00 (z1q rfl) rfl rfl (by decide) ?_)) | (apply z3b; (refine z0k (z6a rfl rfl rfl rfl rfl (by decide)) ?_)))) | (apply z0b; (first | refine z10 ?_ | apply z0d)) | (apply z0c; (first | apply z0f | apply z01 | apply z09 | apply z03 | refine z1i rfl (fun _ => ?_) (fun _ => ?_))))
   all_goals try (exfalso; omega)
   exact z0g Tryz.func30 _ (z0j rfl rfl) ⟨rfl, rfl⟩
 rw [if_neg o1]
 repeat' (first | (apply z0e; (first | refine z11 rfl (by decide) ?_ | (apply z0a; (refine z00 (z0u rfl rfl rfl rfl) rfl rfl (by decide) ?_)) | (apply z07; (refine z00 (z04 rfl rfl) rfl rfl (by decide) ?_)) | (apply z1e; (refine z00 (z1q rfl) rfl rfl (by decide) ?_)) | (apply z3b; (refine z0k (z6a rfl rfl rfl rfl rfl (by decide)) ?_)))) | (apply z0b; (first | refine z10 ?_ | apply z0d)) | (apply z0c; (first | apply z0f | apply z01 | apply z09 | apply z03 | refine z1i rfl (fun _ => ?_) (fun _ => ?_))))
 all_goals try (exfalso; omega)
 refine z1x ?_
 refine z0s (z2u (fun q : Nat × Int => ⟨42, [(1, .ptr (0, 1) 0), (3, I .i64 q.2), (10, .d (.slice (ks.map rxc))), (11, I .i64 ks.length), (12, I .i64 (q.1 : Nat))], [(1, .box ((rx5 op mn mx rs ks).map .d))], H⟩) (fun q => q.1 ≤ ks.length ∧ 0 ≤ q.2 ∧ q.2 ≤ 65 ∧ psL 65 (ks.drop q.1) q.2 = psL 65 ks 0) (fun q => ks.length - q.1) ?_ (0, 0) ⟨Nat.zero_le _, by simp, by simp, rfl⟩) rfl rfl
 rintro ⟨i, a⟩ ⟨i1, i2, i3, i4⟩ ihl
 simp only at i1 i2 i3 i4 ihl ⊢
 by_cases hlt : i < ks.length
 · obtain ⟨k, hk⟩ : ∃ k, ks[i]? = some k := ⟨_, List.getElem?_eq_getElem hlt⟩
   have hkv := z4z hv.2 k (List.mem_of_getElem? hk)
   have c := ih k (List.mem_of_getElem? hk) (z5z hf3 k (List.mem_of_getElem? hk)) hkv
   have hr := zp8 (C := 65) (by decide) k hkv
   rw [zh3 hk] at i4
   generalize ps 65 k = pk at c hr i4
   obtain ⟨op', mn', mx', rs', ks'⟩ := k
   have hk' := z3p hk
   rw [Drx, z1v] at c
   repeat' (first | (apply z0e; (first | refine z11 rfl (by decide) ?_ | (apply z0a; (first | refine z00 (z0u rfl rfl rfl rfl) rfl rfl (by decide) ?_ | refine z00 (z14 rfl rfl) rfl rfl (by decide) ?_ | refine z00 (z15 rfl rfl rfl rfl) rfl rfl (by decide) ?_)) | (apply z07; (refine z00 (z04 rfl rfl) rfl rfl (by decide) ?_)) | (apply z1f; (refine z00 (z1b (ys := ks.map rxc) rfl (by omega) hk' rfl) rfl rfl (by decide) ?_)) | (apply z13; (first | refine z00 (z19 (z1o (by omega) (by omega))) rfl rfl (by decide) ?_ | refine z00 (z95 (z1o (by omega) (by omega))) rfl rfl (by decide) ?_)) | (apply z1e; (first | refine z00 zey rfl rfl (by decide) ?_ | refine z00 z9a rfl rfl (by decide) ?_)) | (apply z0o; (refine z2v c rfl (by decide) ?_)) | (apply z05; (refine z06 rfl rfl rfl rfl rfl rfl ?_)) | (apply z0n; (refine z0k (z0l rfl rfl (by decide)) ?_)))) | (apply z0b; (first | refine z10 ?_ | apply z0d)) | (apply z0c; (first | apply z0f | apply z01 | apply z09 | apply z03 | apply z08 | refine z1i rfl (fun _ => ?_) (fun _ => ?_) | refine z2i rfl (fun _ => ?_) (fun _ => ?_) | refine z0p rfl ?_)))
   all_goals try (exfalso; omega)
   exact z0s (ihl (i + 1, min (a + pk) 65) ⟨by simp only; omega, by simp only; omega, by simp only; omega, i4⟩ (by simp only; omega)) rfl rfl
 · obtain rfl : i = ks.length := by omega
   rw [List.drop_length, psL] at i4
   subst i4
   by_cases o4 : op = 4
   · rw [if_pos o4]
     rcases z4x hv.1 with h | h | h | ⟨_, _, _, h1, h2, h3⟩
     · exact absurd (h.1.symm.trans o4) (by decide)
     · exact absurd (h.1.symm.trans o4) (by decide)
     · exact absurd (h.1.symm.trans o4) (by decide)
     have m1 : (psL 65 ks 0) * max mn 1 ≤ 65 * 16 := Int.mul_le_mul i3 (by omega) (by omega) (by decide)
     have m2 : 0 ≤ (psL 65 ks 0) * max mn 1 := Int.mul_nonneg i2 (by omega)
     have m3 : mx ≠ -1 → (psL 65 ks 0) * mx ≤ 65 * 16 := fun h => Int.mul_le_mul i3 (by omega) (by omega) (by decide)
     have m4 : mx ≠ -1 → 0 ≤ (psL 65 ks 0) * mx := fun h => Int.mul_nonneg i2 (by omega)
     rw [rep]
     by_cases hm : mx = -1
     · rw [if_pos hm]
       repeat' (first | (apply z0e; (first | refine z11 rfl (by decide) ?_ | (apply z0a; (refine z00 (z0u rfl rfl rfl rfl) rfl rfl (by decide) ?_)) | (apply z07; (refine z00 (z04 rfl rfl) rfl rfl (by decide) ?_)) | (apply z13; (refine z00 (z95 (z1o (by omega) (by omega))) rfl rfl (by decide) ?_)) | (apply z1e; (first | refine z00 zey rfl rfl (by decide) ?_ | refine z00 z9a rfl rfl (by decide) ?_)))) | (apply z0b; (first | refine z10 ?_ | apply z0d)) | (apply z0c; (first | apply z0f | apply z01 | apply z09 | apply z03 | apply z08 | refine z1i rfl (fun _ => ?_) (fun _ => ?_) | refine z2i rfl (fun _ => ?_) (fun _ => ?_) | refine z0p rfl ?_)))
       all_goals try (exfalso; omega)
       exact z0g Tryz.func30 _ (z0j rfl rfl) ⟨rfl, rfl⟩
     · rw [if_neg hm]
       have m5 := m3 hm
       have m6 := m4 hm
       repeat' (first | (apply z0e; (first | refine z11 rfl (by decide) ?_ | (apply z0a; (refine z00 (z0u rfl rfl rfl rfl) rfl rfl (by decide) ?_)) | (apply z07; (refine z00 (z04 rfl rfl) rfl rfl (by decide) ?_)) | (apply z13; (refine z00 (z95 (z1o (by omega) (by omega))) rfl rfl (by decide) ?_)) | (apply z1e; (first | refine z00 zey rfl rfl (by decide) ?_ | refine z00 z9a rfl rfl (by decide) ?_)))) | (apply z0b; (first | refine z10 ?_ | apply z0d)) | (apply z0c; (first | apply z0f | apply z01 | apply z09 | apply z03 | apply z08 | refine z1i rfl (fun _ => ?_) (fun _ => ?_) | refine z2i rfl (fun _ => ?_) (fun _ => ?_) | refine z0p rfl ?_)))
       all_goals try (exfalso; omega)
       exact z0g Tryz.func30 _ (z0j rfl rfl) ⟨rfl, rfl⟩
   · rw [if_neg o4]
     repeat' (first | (apply z0e; (first | refine z11 rfl (by decide) ?_ | (apply z0a; (refine z00 (z0u rfl rfl rfl rfl) rfl rfl (by decide) ?_)) | (apply z07; (refine z00 (z04 rfl rfl) rfl rfl (by decide) ?_)) | (apply z13; (refine z00 (z95 (z1o (by omega) (by omega))) rfl rfl (by decide) ?_)) | (apply z1e; (first | refine z00 zey rfl rfl (by decide) ?_ | refine z00 z9a rfl rfl (by decide) ?_)))) | (apply z0b; (first | refine z10 ?_ | apply z0d)) | (apply z0c; (first | apply z0f | apply z01 | apply z09 | apply z03 | apply z08 | refine z1i rfl (fun _ => ?_) (fun _ => ?_) | refine z2i rfl (fun _ => ?_) (fun _ => ?_) | refine z0p rfl ?_)))
     all_goals try (exfalso; omega)
     refine z0g Tryz.func30 _ (z0j rfl rfl) ⟨?_, rfl⟩
     rw [Int.min_eq_left i3]
theorem z9v (e : Rx) (hfit : fit e) : z1p Tryz.prog 13 [.d (Drx e)] (I .i64 (val e)) := by
 refine z2e fun H => ?_
 refine z1c Tryz.func13 (by kernel_rfl) rfl (by simp) ?_
 have c1 := zqk 3 e hfit 1 0 0 (by decide) (by decide) (by decide) (by decide)
 have c2 := zew e hfit
 have c3 := fun h => zbm e hfit h
 rw [zt2]
 generalize sm e 1 0 = r at c1
 obtain ⟨rb, rn⟩ := r
 simp only at c1 ⊢
 generalize ps 65 e = pe at c3
 generalize vns e = ve at c2 c3
 obtain ⟨op, mn, mx, rs, ks⟩ := e
 rw [Drx, z1v] at *
 dsimp only [Tryz.f13]
 cases rb with
 | false =>
  repeat' (first | (apply z0e; (first | refine z11 rfl (by decide) ?_ | (apply z0a; (refine z00 (z3r rfl rfl rfl) rfl rfl (by decide) ?_)) | (apply z0o; (refine z97 c1 rfl rfl (by decide) ?_)) | (apply z05; (refine z06 rfl rfl rfl rfl rfl rfl ?_)) | (apply z0n; (refine z0k (z0l rfl rfl (by decide)) ?_)) | (apply z3b; (refine z0k (z6a rfl rfl rfl rfl rfl (by decide)) ?_)))) | (apply z0b; (first | refine z10 ?_ | apply z0d)) | (apply z0c; (first | apply z0f | apply z01 | refine z0r rfl ?_ | apply z03)))
  all_goals try (exfalso; omega)
  exact z0g Tryz.func13 _ (z0j rfl rfl) ⟨rfl, rfl⟩
 | true =>
  cases ve with
  | false =>
   repeat' (first | (apply z0e; (first | refine z11 rfl (by decide) ?_ | (apply z0a; (refine z00 (z3r rfl rfl rfl) rfl rfl (by decide) ?_)) | (apply z0o; (first | refine z97 c1 rfl rfl (by decide) ?_ | refine z2v c2 rfl (by decide) ?_)) | (apply z05; (refine z06 rfl rfl rfl rfl rfl rfl ?_)) | (apply z0n; (refine z0k (z0l rfl rfl (by decide)) ?_)) | (apply z3b; (refine z0k (z6a rfl rfl rfl rfl rfl (by decide)) ?_)))) | (apply z0b; (first | refine z10 ?_ | apply z0d)) | (apply z0c; (first | apply z0f | apply z01 | refine z0r rfl ?_ | refine z0h rfl ?_ | apply z03)))
   all_goals try (exfalso; omega)
   exact z0g Tryz.func13 _ (z0j rfl rfl) ⟨rfl, rfl⟩
  | true =>
   have c4 := c3 rfl
   by_cases hp : 64 < pe
   · repeat' (first | (apply z0e; (first | refine z11 rfl (by decide) ?_ | (apply z0a; (refine z00 (z3r rfl rfl rfl) rfl rfl (by decide) ?_)) | (apply z0o; (first | refine z97 c1 rfl rfl (by decide) ?_ | refine z2v c2 rfl (by decide) ?_ | refine z2v c4 rfl (by decide) ?_)) | (apply z05; (refine z06 rfl rfl rfl rfl rfl rfl ?_)) | (apply z0n; (refine z0k (z0l rfl rfl (by decide)) ?_)) | (apply z3b; (refine z0k (z6a rfl rfl rfl rfl rfl (by decide)) ?_)))) | (apply z0b; (first | refine z10 ?_ | apply z0d)) | (apply z0c; (first | apply z0f | apply z01 | refine z0h rfl ?_ | apply z09 | apply z03 | apply z08 | refine z1i rfl (fun _ => ?_) (fun _ => ?_))))
     all_goals try (exfalso; omega)
     refine z0g Tryz.func13 _ (z0j rfl rfl) ⟨?_, rfl⟩
     simp [hp]
   · repeat' (first | (apply z0e; (first | refine z11 rfl (by decide) ?_ | (apply z0a; (refine z00 (z3r rfl rfl rfl) rfl rfl (by decide) ?_)) | (apply z0o; (first | refine z97 c1 rfl rfl (by decide) ?_ | refine z2v c2 rfl (by decide) ?_ | refine z2v c4 rfl (by decide) ?_)) | (apply z05; (refine z06 rfl rfl rfl rfl rfl rfl ?_)) | (apply z0n; (refine z0k (z0l rfl rfl (by decide)) ?_)) | (apply z3b; (refine z0k (z6a rfl rfl rfl rfl rfl (by decide)) ?_)))) | (apply z0b; (first | refine z10 ?_ | apply z0d)) | (apply z0c; (first | apply z0f | apply z01 | refine z0h rfl ?_ | apply z09 | apply z03 | apply z08 | refine z1i rfl (fun _ => ?_) (fun _ => ?_))))
     all_goals try (exfalso; omega)
     refine z0g Tryz.func13 _ (z0j rfl rfl) ⟨?_, rfl⟩
     simp [hp]
end Go.Proofs.YtjmbjgecfpggdaaGreatDoor
