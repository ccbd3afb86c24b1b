/- A part of the proof: G47. -/
import Derived.Test.YtjmbjgecfpggdaaGreatDoorM46
import Derived.Test.YtjmbjgecfpggdaaGreatDoorRv
set_option linter.all false
set_option linter.unusedVariables false
set_option linter.unusedSimpArgs false
namespace Go.Proofs.YtjmbjgecfpggdaaGreatDoor
open Go.Ab Go.Rx
set_option maxHeartbeats 20000000
set_option maxRecDepth 100000
attribute [local irreducible] Run Ops Op1 z2q Val Tr z1p z2j NF Rel z5b z5c z84
theorem ztp : ∀ e : Rx, fit e → z1p Tryz.prog 8 [.d (Drx e), .d (Drx e)] (B true) := by
 refine Rx.ind' fun op mn mx rs ks ih hfit => ?_
 obtain ⟨hf1, hf2, hf3⟩ := hfit
 rw [z3u]
 refine z2e fun H => ?_
 refine z1c Tryz.func8 (by kernel_rfl) rfl (by simp) ?_
 dsimp only [Tryz.f8]
 repeat' (first | (apply z0e; (first | refine z11 rfl (by decide) ?_ | (apply z0a; (refine z00 (z0u rfl rfl rfl rfl) rfl rfl (by decide) ?_)) | (apply z07; (refine z00 (z04 rfl rfl) rfl rfl (by decide) ?_)) | (apply z1e; (refine z00 (z1q rfl) rfl rfl (by decide) ?_)) | (apply z3b; (refine z0k (z6a rfl rfl rfl rfl rfl (by decide)) ?_)))) | (apply z0b; (first | refine z10 ?_ | apply z0d | refine z2f rfl rfl (by decide) ?_ | refine z2s rfl rfl (fun _ => ?_) (fun _ => ?_))) | (apply z0c; (first | apply z0f | apply z01 | refine z0r rfl ?_ | apply z09 | apply z03 | refine z2i rfl (fun _ => ?_) (fun _ => ?_))))
 all_goals try (exfalso; omega)
 refine z1x ?_
 refine z0s (z2u (fun q : Nat => ⟨81, [(2, .ptr (0, 2) 0), (3, .ptr (0, 3) 0), (46, I .i64 rs.length), (47, I .i64 (q : Nat))], [(2, .box ((rx5 op mn mx rs ks).map .d)), (3, .box ((rx5 op mn mx rs ks).map .d))], H⟩) (fun q => q ≤ rs.length) (fun q => rs.length - q) ?_ 0 (Nat.zero_le _)) rfl rfl
 intro i i1 ihl
 by_cases hlt : i < rs.length
 · obtain ⟨r, hr⟩ : ∃ r, rs[i]? = some r := ⟨_, List.getElem?_eq_getElem hlt⟩
   repeat' (first | (apply z0e; (first | refine z11 rfl (by decide) ?_ | (apply z0a; (refine z00 (z0u rfl rfl rfl rfl) rfl rfl (by decide) ?_)) | (apply z07; (refine z00 (z04 rfl rfl) rfl rfl (by decide) ?_)) | (apply z13; (refine z00 (z19 (z1o (by omega) (by omega))) rfl rfl (by decide) ?_)) | (apply z1e; (refine z00 (z1q rfl) rfl rfl (by decide) ?_)))) | (apply z0b; (first | refine z10 ?_ | apply z0d)) | (apply z0c; (first | apply z0f | apply z01 | refine z0h rfl ?_ | apply z09 | apply z03 | apply z56 | apply z08 | refine z1i rfl (fun _ => ?_) (fun _ => ?_) | refine z0p rfl ?_)) | (apply z57; (first | (apply z2g; refine z3o mix (by kernel_rfl) ?_) | refine z5i rfl (by first | exact rfl | exact ⟨_, rfl, rfl, rfl⟩) (by decide) ?_ | (apply z1r; (first | refine z1d (z0u rfl rfl rfl rfl) (by first | exact rfl | exact ⟨_, rfl, rfl, rfl⟩) rfl rfl (by decide) ?_ | refine z1d (z14 rfl rfl) (by first | exact rfl | exact ⟨_, rfl, rfl, rfl⟩) rfl rfl (by decide) ?_)) | (apply z1l; (refine z1d (z04 rfl rfl) (by first | exact rfl | exact ⟨_, rfl, rfl, rfl⟩) rfl rfl (by decide) ?_)) | (apply z47; (refine z1d (z1b (ys := rs.map rgc) rfl (by omega) (idx hr) rfl) (by first | exact rfl | exact ⟨_, rfl, rfl, rfl⟩) rfl rfl (by decide) ?_)) | (apply z5g; (refine z1d (zvl (op := .neq) (tx := 52) (zvp r)) (by first | exact rfl | exact ⟨_, rfl, rfl, rfl⟩) rfl rfl (by decide) ?_)))))
   all_goals try (exfalso; omega)
   all_goals exact z0s (ihl (i + 1) (by omega) (by omega)) rfl rfl
 · obtain rfl : i = rs.length := by omega
   clear ihl
   repeat' (first | (apply z0e; (first | refine z11 rfl (by decide) ?_ | (apply z0a; (refine z00 (z0u rfl rfl rfl rfl) rfl rfl (by decide) ?_)) | (apply z07; (refine z00 (z04 rfl rfl) rfl rfl (by decide) ?_)) | (apply z1e; (refine z00 (z1q rfl) rfl rfl (by decide) ?_)))) | (apply z0b; (first | refine z10 ?_ | apply z0d)) | (apply z0c; (first | apply z0f | apply z01 | apply z09 | apply z03 | apply z56 | refine z1i rfl (fun _ => ?_) (fun _ => ?_) | refine z0p rfl ?_)) | (apply z57; (first | refine z5i rfl (by first | exact rfl | exact ⟨_, rfl, rfl, rfl⟩) (by decide) ?_ | (apply z1r; (refine z1d (z0u rfl rfl rfl rfl) (by first | exact rfl | exact ⟨_, rfl, rfl, rfl⟩) rfl rfl (by decide) ?_)) | (apply z1l; (refine z1d (z04 rfl rfl) (by first | exact rfl | exact ⟨_, rfl, rfl, rfl⟩) rfl rfl (by decide) ?_)))))
   all_goals try (exfalso; omega)
   refine z1x ?_
   refine z0s (z2u (fun q : Nat => ⟨81, [(2, .ptr (0, 2) 0), (3, .ptr (0, 3) 0), (64, I .i64 ks.length), (65, I .i64 (q : Nat))], [(2, .box ((rx5 op mn mx rs ks).map .d)), (3, .box ((rx5 op mn mx rs ks).map .d))], H⟩) (fun q => q ≤ ks.length) (fun q => ks.length - q) ?_ 0 (Nat.zero_le _)) rfl rfl
   intro i i1 ihl
   by_cases hlt : i < ks.length
   · obtain ⟨k, hk⟩ : ∃ k, ks[i]? = some k := ⟨_, List.getElem?_eq_getElem hlt⟩
     have hc := ih k (List.mem_of_getElem? hk) (z5z hf3 k (List.mem_of_getElem? hk))
     obtain ⟨op', mn', mx', rs', ks'⟩ := k
     rw [z3u] at hc
     repeat' (first | (apply z0e; (first | refine z11 rfl (by decide) ?_ | (apply z13; (refine z00 (z19 (z1o (by omega) (by omega))) rfl rfl (by decide) ?_)))) | (apply z0b; (first | refine z10 ?_ | apply z0d)) | (apply z0c; (first | apply z0f | apply z01 | refine z0h rfl ?_ | apply z09 | apply z03 | apply z56 | apply z08 | refine z1i rfl (fun _ => ?_) (fun _ => ?_) | refine z0p rfl ?_)) | (apply z57; (first | (apply z2g; refine z3o mix (by kernel_rfl) ?_) | refine z5i rfl (by first | exact rfl | exact ⟨_, rfl, rfl, rfl⟩) (by decide) ?_ | (apply z1r; (first | refine z1d (z0u rfl rfl rfl rfl) (by first | exact rfl | exact ⟨_, rfl, rfl, rfl⟩) rfl rfl (by decide) ?_ | refine z1d (z14 rfl rfl) (by first | exact rfl | exact ⟨_, rfl, rfl, rfl⟩) rfl rfl (by decide) ?_)) | (apply z1l; (refine z1d (z04 rfl rfl) (by first | exact rfl | exact ⟨_, rfl, rfl, rfl⟩) rfl rfl (by decide) ?_)) | (apply z47; (refine z1d (z1b (ys := ks.map rxc) rfl (by omega) (z3p hk) rfl) (by first | exact rfl | exact ⟨_, rfl, rfl, rfl⟩) rfl rfl (by decide) ?_)) | (apply z6v; (refine zw0 hc (by first | exact rfl | exact ⟨_, rfl, rfl, rfl⟩) rfl (by decide) ?_)))))
     all_goals try (exfalso; omega)
     all_goals exact z0s (ihl (i + 1) (by omega) (by omega)) rfl rfl
   · obtain rfl : i = ks.length := by omega
     repeat' (first | (apply z0e; (refine z11 rfl (by decide) ?_)) | (apply z0b; (first | refine z10 ?_ | apply z0d)) | (apply z0c; (first | apply z0f | apply z01 | apply z09 | apply z03 | apply z56 | refine z1i rfl (fun _ => ?_) (fun _ => ?_) | refine z0p rfl ?_)) | (apply z57; (first | refine z5i rfl (by first | exact rfl | exact ⟨_, rfl, rfl, rfl⟩) (by decide) ?_ | (apply z1r; (refine z1d (z0u rfl rfl rfl rfl) (by first | exact rfl | exact ⟨_, rfl, rfl, rfl⟩) rfl rfl (by decide) ?_)) | (apply z1l; (refine z1d (z04 rfl rfl) (by first | exact rfl | exact ⟨_, rfl, rfl, rfl⟩) rfl rfl (by decide) ?_)))))
     all_goals try (exfalso; omega)
     all_goals exact z0g Tryz.func8 _ (z0j rfl rfl) ⟨rfl, rfl⟩
theorem zqt : (∀ e : Rx, vns e = true → sz e ≤ 1000000 → fit e) ∧ ∀ l : List Rx, zat l = true → szL l ≤ 1000000 → zgv l := by
 refine Rx.ind (fun op mn mx rs ks ih hv hs => ?_) (fun _ _ => by rw [zgv]; trivial) (fun k ks hk ih hv hs => ?_)
 · rw [vns, Bool.and_eq_true] at hv
   rw [sz] at hs
   have := z3k ks
   rw [fit]
   refine ⟨?_, by omega, ih hv.2 (by omega)⟩
   by_cases o1 : op = 1
   · have h := hv.1
     rw [vn, if_pos o1, Bool.and_eq_true] at h
     have := znp h.2
     omega
   · have h := hv.1
     rcases z4x h with ⟨h, _⟩ | ⟨_, _, _, rfl, _⟩ | ⟨_, _, _, rfl, _⟩ | ⟨_, rfl, _⟩
     · exact absurd h o1
     all_goals simp
 · rw [zat, Bool.and_eq_true] at hv
   rw [szL] at hs
   rw [zgv]
   exact ⟨hk hv.1 (by omega), ih hv.2 (by omega)⟩
theorem zpo {e : Rx} (h : val e = 0) : fit e := zqt.1 e (zgi h) (by have := ztm h; omega)
theorem zjs (τ : Tab) (s : ByteArray) (hs : s.size ≤ 140737488351232) : z2j Tryz.prog 6 [S s] (zdq τ 0) [] (.tup [.d (eX (z4q s).1), I .i64 (z4q s).2.1, I .i64 (z4q s).2.2]) := by
 by_cases h200 : 200 < s.size
 · refine z2k fun H hH => ?_
   refine z1c Tryz.func6 (by kernel_rfl) rfl (by simp) ?_
   dsimp only [Tryz.f6]
   rw [z4q, if_pos h200, z3x]
   repeat' (first | (apply z0e; (first | refine z11 rfl (by decide) ?_ | (apply z1e; (refine z00 (z3v rfl) rfl rfl (by decide) ?_)) | (apply z05; (refine z06 rfl rfl rfl rfl rfl rfl ?_)) | (apply z0n; (refine z0k (z0l rfl rfl (by decide)) ?_)) | (apply z0y; (refine z0x rfl rfl rfl rfl rfl rfl rfl (by decide) ?_)))) | (apply z0b; (first | refine z10 ?_ | apply z0d)) | (apply z0c; (first | apply z0f | apply z01 | apply z09 | apply z03 | refine z1i rfl (fun _ => ?_) (fun _ => ?_))))
   all_goals try (exfalso; omega)
   all_goals exact z0g Tryz.func6 _ (z2h rfl rfl rfl rfl rfl rfl rfl rfl) ⟨rfl, rfl⟩
 · exact zen τ s (by omega)
end Go.Proofs.YtjmbjgecfpggdaaGreatDoor
