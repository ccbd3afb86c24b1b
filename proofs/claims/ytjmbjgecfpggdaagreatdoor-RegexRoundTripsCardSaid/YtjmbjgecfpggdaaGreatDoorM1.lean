/- A part of the proof: Z1. -/
import Derived.Test.YtjmbjgecfpggdaaGreatDoorM47
import Derived.Test.YtjmbjgecfpggdaaGreatDoorRz
set_option linter.all false
set_option linter.unusedVariables false
set_option linter.unusedSimpArgs false
namespace Go.Proofs.YtjmbjgecfpggdaaGreatDoor
open Go.Ab Go.Rx
set_option maxHeartbeats 20000000
set_option maxRecDepth 100000
attribute [local irreducible] Run Ops Op1 z2r Val Tr z1n z36 NF Rel z5q z5r zad
theorem zfh (τ : Tab) (e : Rx) (hf : fit e) : z36 Tryz.prog 5 [.d (Drx e)] (zd9 τ 0) [] (B true) := by
 refine z42 fun H hH => ?_
 have hX0 := hH ((0, 700), .glob 0 τ.o0) (by simp)
 have hX1 := hH ((0, 701), .glob 1 τ.o1) (by simp)
 have hb := zu1 [e] (by rw [zcv]; exact ⟨hf, by rw [zcv]; trivial⟩) (by simp)
 have ha := zkq τ
 generalize zpn [e] = bb at hb
 have hfm := zs4 e hf
 have hv := z6f e hf
 have hsm := zt7 e hf
 by_cases hval : val e = 0
 · rw [hval] at hv
   by_cases hw : wrt e = true
   · have hfS : fmS e = txE (fm e 0) := by rw [fmS, if_pos ⟨hval, hw⟩]
     have hpb := zk6 hval hw
     have hp2 := fun h : (txE (fm e 0)).size ≤ 1000000 => zen τ (txE (fm e 0)) h
     rw [hfS] at hfm
     generalize txE (fm e 0) = T at *
     by_cases hT : T.size ≤ 200
     · have hp2 := hp2 (by omega)
       rw [hpb hT] at hp2
       simp only at hp2
       obtain ⟨op, mn, mx, rs, ks⟩ := e
       rw [z65] at hp2
       rw [z2h] at hfm hv hsm ⊢
       have hm : ([.mk op mn mx rs ks] : List Rx).map rxc = [rx5 op mn mx rs ks] := by rw [List.map_cons, z2j]; rfl
       rw [hm] at hb
       refine z16 Tryz.func5 (by kernel_rfl) rfl (by simp) ?_
       dsimp only [Tryz.f5]
       refine z4n 700 0 700 hX0 rfl rfl ?_
       refine z4n 701 0 701 (z0v hX1 (by simp)) rfl rfl ?_
       cases bb
       all_goals repeat' (first | (apply z0e; (first | refine z13 rfl (by decide) ?_ | (apply z09; (first | refine z00 (z2g rfl rfl rfl) rfl rfl (by decide) ?_ | refine z00 (z0k rfl rfl rfl rfl) rfl rfl (by decide) ?_ | refine z00 (z1a rfl rfl rfl rfl) rfl rfl (by decide) ?_)) | (apply z08; (refine z00 (z03 rfl rfl) rfl rfl (by decide) ?_)) | (apply z1k; (first | refine z00 (z1p rfl) rfl rfl (by decide) ?_ | refine z00 (z48 rfl) rfl rfl (by decide) ?_)) | (apply z0l; (first | refine z15 ha rfl rfl (by decide) ?_ | refine z15 hp2 rfl rfl (by decide) ?_ | refine z1z hb rfl (by decide) ?_ | refine z1z hfm rfl (by decide) ?_ | refine z1z hv rfl (by decide) ?_ | refine z1z hsm rfl (by decide) ?_)) | (apply z0i; (refine z0b rfl rfl rfl rfl rfl rfl ?_)) | (apply z0q; (refine z0j (z0p rfl rfl (by decide)) ?_)) | (apply z1y; (refine z0j (z27 rfl rfl (by decide)) ?_)) | (apply z3p; (refine z3n rfl rfl rfl rfl rfl rfl rfl rfl (by decide) ?_)))) | (apply z0f; (first | refine z0z ?_ | apply z0c | refine z2e rfl rfl (by decide) ?_ | refine z5u rfl rfl (by decide) ?_ | refine z0u rfl rfl (fun _ => ?_) (fun _ => ?_))) | (apply z0d; (first | apply z0h | apply z01 | refine z0o rfl ?_ | refine z0g rfl ?_ | apply z06 | refine z2w rfl (fun _ => ?_) (fun _ => ?_))))
       all_goals try (exfalso; first | omega | contradiction | (simp_all; done))
       all_goals refine z3q 700 0 700 (raw := .glob 0 τ.o0) rfl rfl (z0v (z2i _ (0, 700) _) (by simp)) rfl rfl ?_
       all_goals refine z3q 701 0 701 (raw := .glob 1 τ.o1) rfl rfl (z0v (z2i _ (0, 701) _) (by simp)) rfl rfl ?_
       all_goals exact z07 Tryz.func5 _ (z0a rfl rfl) ⟨rfl, z6e hX0 hX1⟩
     · obtain ⟨op, mn, mx, rs, ks⟩ := e
       rw [z2h] at hfm hv hsm ⊢
       have hm : ([.mk op mn mx rs ks] : List Rx).map rxc = [rx5 op mn mx rs ks] := by rw [List.map_cons, z2j]; rfl
       rw [hm] at hb
       refine z16 Tryz.func5 (by kernel_rfl) rfl (by simp) ?_
       dsimp only [Tryz.f5]
       refine z4n 700 0 700 hX0 rfl rfl ?_
       refine z4n 701 0 701 (z0v hX1 (by simp)) rfl rfl ?_
       cases bb
       all_goals repeat' (first | (apply z0e; (first | refine z13 rfl (by decide) ?_ | (apply z09; (first | refine z00 (z2g rfl rfl rfl) rfl rfl (by decide) ?_ | refine z00 (z0k rfl rfl rfl rfl) rfl rfl (by decide) ?_)) | (apply z08; (refine z00 (z03 rfl rfl) rfl rfl (by decide) ?_)) | (apply z1k; (first | refine z00 (z1p rfl) rfl rfl (by decide) ?_ | refine z00 (z48 rfl) rfl rfl (by decide) ?_)) | (apply z0l; (first | refine z15 ha rfl rfl (by decide) ?_ | refine z1z hb rfl (by decide) ?_ | refine z1z hfm rfl (by decide) ?_ | refine z1z hv rfl (by decide) ?_)) | (apply z1y; (refine z0j (z27 rfl rfl (by decide)) ?_)) | (apply z3p; (refine z3n rfl rfl rfl rfl rfl rfl rfl rfl (by decide) ?_)))) | (apply z0f; (first | refine z0z ?_ | apply z0c | refine z2e rfl rfl (by decide) ?_ | refine z5u rfl rfl (by decide) ?_ | refine z0u rfl rfl (fun _ => ?_) (fun _ => ?_))) | (apply z0d; (first | apply z0h | apply z01 | refine z0o rfl ?_ | refine z0g rfl ?_ | apply z06 | refine z2w rfl (fun _ => ?_) (fun _ => ?_))))
       all_goals try (exfalso; first | omega | contradiction | (simp_all; done))
       all_goals refine z3q 700 0 700 (raw := .glob 0 τ.o0) rfl rfl (z0v (z2i _ (0, 700) _) (by simp)) rfl rfl ?_
       all_goals refine z3q 701 0 701 (raw := .glob 1 τ.o1) rfl rfl (z0v (z2i _ (0, 701) _) (by simp)) rfl rfl ?_
       all_goals exact z07 Tryz.func5 _ (z0a rfl rfl) ⟨rfl, z6e hX0 hX1⟩
   · have hfS : fmS e = ⟨#[]⟩ := by rw [fmS, if_neg (fun h => hw h.2)]
     have hem := znu hval hw
     rw [hfS] at hfm
     obtain ⟨op, mn, mx, rs, ks⟩ := e
     rw [z2h] at hfm hv hsm ⊢
     have hm : ([.mk op mn mx rs ks] : List Rx).map rxc = [rx5 op mn mx rs ks] := by rw [List.map_cons, z2j]; rfl
     rw [hm] at hb
     have hem : ¬ (op = 2 ∧ ks.length = 0) := fun h => hem ⟨h.1, List.eq_nil_of_length_eq_zero h.2⟩
     have hz0 : (⟨#[]⟩ : ByteArray).size = 0 := rfl
     refine z16 Tryz.func5 (by kernel_rfl) rfl (by simp) ?_
     dsimp only [Tryz.f5]
     refine z4n 700 0 700 hX0 rfl rfl ?_
     refine z4n 701 0 701 (z0v hX1 (by simp)) rfl rfl ?_
     cases bb
     all_goals repeat' (first | (apply z0e; (first | refine z13 rfl (by decide) ?_ | (apply z09; (first | refine z00 (z2g rfl rfl rfl) rfl rfl (by decide) ?_ | refine z00 (z0k rfl rfl rfl rfl) rfl rfl (by decide) ?_)) | (apply z08; (refine z00 (z03 rfl rfl) rfl rfl (by decide) ?_)) | (apply z1k; (first | refine z00 (z1p rfl) rfl rfl (by decide) ?_ | refine z00 (z48 rfl) rfl rfl (by decide) ?_)) | (apply z0l; (first | refine z15 ha rfl rfl (by decide) ?_ | refine z1z hb rfl (by decide) ?_ | refine z1z hfm rfl (by decide) ?_ | refine z1z hv rfl (by decide) ?_)) | (apply z1y; (refine z0j (z27 rfl rfl (by decide)) ?_)) | (apply z3p; (refine z3n rfl rfl rfl rfl rfl rfl rfl rfl (by decide) ?_)))) | (apply z0f; (first | refine z0z ?_ | apply z0c | refine z2e rfl rfl (by decide) ?_ | refine z0u rfl rfl (fun _ => ?_) (fun _ => ?_))) | (apply z0d; (first | apply z0h | apply z01 | refine z0o rfl ?_ | refine z0g rfl ?_ | apply z06 | refine z2w rfl (fun _ => ?_) (fun _ => ?_))))
     all_goals try (exfalso; first | omega | contradiction | (simp_all; done))
     all_goals refine z3q 700 0 700 (raw := .glob 0 τ.o0) rfl rfl (z0v (z2i _ (0, 700) _) (by simp)) rfl rfl ?_
     all_goals refine z3q 701 0 701 (raw := .glob 1 τ.o1) rfl rfl (z0v (z2i _ (0, 701) _) (by simp)) rfl rfl ?_
     all_goals exact z07 Tryz.func5 _ (z0a rfl rfl) ⟨rfl, z6e hX0 hX1⟩
 · generalize val e = v at *
   obtain ⟨op, mn, mx, rs, ks⟩ := e
   rw [z2h] at hv ⊢
   have hm : ([.mk op mn mx rs ks] : List Rx).map rxc = [rx5 op mn mx rs ks] := by rw [List.map_cons, z2j]; rfl
   rw [hm] at hb
   refine z16 Tryz.func5 (by kernel_rfl) rfl (by simp) ?_
   dsimp only [Tryz.f5]
   refine z4n 700 0 700 hX0 rfl rfl ?_
   refine z4n 701 0 701 (z0v hX1 (by simp)) rfl rfl ?_
   cases bb
   all_goals repeat' (first | (apply z0e; (first | refine z13 rfl (by decide) ?_ | (apply z09; (refine z00 (z2g rfl rfl rfl) rfl rfl (by decide) ?_)) | (apply z0l; (first | refine z1z hb rfl (by decide) ?_ | refine z1z hv rfl (by decide) ?_)) | (apply z1y; (refine z0j (z27 rfl rfl (by decide)) ?_)) | (apply z3p; (refine z3n rfl rfl rfl rfl rfl rfl rfl rfl (by decide) ?_)))) | (apply z0f; (first | refine z0z ?_ | apply z0c | refine z2e rfl rfl (by decide) ?_)) | (apply z0d; (first | apply z0h | apply z01 | refine z0o rfl ?_ | apply z06 | refine z2w rfl (fun _ => ?_) (fun _ => ?_))))
   all_goals try (exfalso; first | omega | contradiction | (simp_all; done))
   all_goals refine z3q 700 0 700 (raw := .glob 0 τ.o0) rfl rfl (z0v (z2i _ (0, 700) _) (by simp)) rfl rfl ?_
   all_goals refine z3q 701 0 701 (raw := .glob 1 τ.o1) rfl rfl (z0v (z2i _ (0, 701) _) (by simp)) rfl rfl ?_
   all_goals exact z07 Tryz.func5 _ (z0a rfl rfl) ⟨rfl, z6e hX0 hX1⟩
end Go.Proofs.YtjmbjgecfpggdaaGreatDoor
