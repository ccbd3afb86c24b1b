/- A part of the proof: Z15. -/
import Derived.Test.YtjmbjgecfpggdaaGreatDoorM14
import Derived.Test.YtjmbjgecfpggdaaGreatDoorRz
import Derived.Test.YtjmbjgecfpggdaaGreatDoorRv
set_option linter.all false
set_option linter.unusedVariables false
set_option linter.unusedSimpArgs false
namespace Go.Proofs.YtjmbjgecfpggdaaGreatDoor
open Go.Ab Go.Rx
set_option maxHeartbeats 20000000
set_option maxRecDepth 100000
attribute [local irreducible] Run Ops Op1 z2r Val Tr z1n z36 NF Rel z5q z5r zad
theorem ztv (e : Rx) (hf : fit e) : z1n Tryz.prog 12 [.d (Drx e)] (S (fmS e)) := by
 refine z1u fun H => ?_
 have hval := zfz e hf
 have hwr := zio e hf
 by_cases h0 : val e = 0
 · have ht := zlt e hf (z74 h0) (zoy h0) 0
   rw [h0] at hval
   rw [fmS, h0]
   cases hw : wrt e with
   | true =>
    rw [hw] at hwr
    rw [if_pos ⟨rfl, rfl⟩]
    generalize txE (fm e 0) = T at *
    obtain ⟨op, mn, mx, rs, ks⟩ := e
    rw [z5f] at hval ht hwr ⊢
    refine z16 Tryz.func12 (by kernel_rfl) rfl (by simp) ?_
    dsimp only [Tryz.f12]
    repeat' (first | (apply z0e; (first | refine z13 rfl (by decide) ?_ | (apply z09; (refine z00 (z2g rfl rfl rfl) rfl rfl (by decide) ?_)) | (apply z0l; (first | refine z1z hval rfl (by decide) ?_ | refine z1z hwr rfl (by decide) ?_ | refine z1z ht rfl (by decide) ?_)) | (apply z1y; (refine z0j (z3b rfl rfl rfl rfl rfl (by decide)) ?_)))) | (apply z0f; (first | refine z0z ?_ | apply z0c)) | (apply z0d; (first | apply z0h | apply z01 | refine z0g rfl ?_ | apply z06)))
    all_goals try (exfalso; omega)
    all_goals exact z07 Tryz.func12 _ (z0a rfl rfl) ⟨rfl, rfl⟩
   | false =>
    rw [hw] at hwr
    rw [if_neg (fun h => by cases h.2)]
    obtain ⟨op, mn, mx, rs, ks⟩ := e
    rw [z5f] at hval hwr ⊢
    refine z16 Tryz.func12 (by kernel_rfl) rfl (by simp) ?_
    dsimp only [Tryz.f12]
    repeat' (first | (apply z0e; (first | refine z13 rfl (by decide) ?_ | (apply z09; (refine z00 (z2g rfl rfl rfl) rfl rfl (by decide) ?_)) | (apply z0l; (first | refine z1z hval rfl (by decide) ?_ | refine z1z hwr rfl (by decide) ?_)) | (apply z1y; (refine z0j (z3b rfl rfl rfl rfl rfl (by decide)) ?_)))) | (apply z0f; (first | refine z0z ?_ | apply z0c)) | (apply z0d; (first | apply z0h | apply z01 | refine z0o rfl ?_)))
    all_goals try (exfalso; omega)
    all_goals exact z07 Tryz.func12 _ (z0a rfl rfl) ⟨rfl, rfl⟩
 · rw [fmS, if_neg (fun h => h0 h.1)]
   generalize val e = v at *
   generalize wrt e = b at *
   obtain ⟨op, mn, mx, rs, ks⟩ := e
   rw [z5f] at hval hwr ⊢
   refine z16 Tryz.func12 (by kernel_rfl) rfl (by simp) ?_
   dsimp only [Tryz.f12]
   repeat' (first | (apply z0e; (first | refine z13 rfl (by decide) ?_ | (apply z09; (refine z00 (z2g rfl rfl rfl) rfl rfl (by decide) ?_)) | (apply z0l; (first | refine z1z hval rfl (by decide) ?_ | refine z1z hwr rfl (by decide) ?_)) | (apply z1y; (refine z0j (z3b rfl rfl rfl rfl rfl (by decide)) ?_)))) | (apply z0f; (first | refine z0z ?_ | apply z0c | refine z2e rfl rfl (by decide) ?_ | refine z3h rfl rfl (fun _ => ?_) (fun _ => ?_))) | (apply z0d; (first | apply z0h | apply z01 | refine z0o rfl ?_ | apply z06 | refine z6t rfl (fun _ => ?_) (fun _ => ?_))))
   all_goals try (exfalso; omega)
   all_goals exact z07 Tryz.func12 _ (z0a rfl rfl) ⟨rfl, rfl⟩
theorem zkc (τ : Tab) (e : Rx) (hf : fit e) : z36 Tryz.prog 4 [.d (Drx e)] (zd9 τ 0) [] (B true) := by
 refine z42 fun H hH => ?_
 have hX0 := hH ((0, 700), .glob 0 τ.o0) (by simp)
 have hX1 := hH ((0, 701), .glob 1 τ.o1) (by simp)
 have hb := zu1 [e] (by rw [zcv]; exact ⟨hf, by rw [zcv]; trivial⟩) (by simp)
 have ha := zkq τ
 generalize zpn [e] = bb at hb
 have hfm := zs4 e hf
 have hfr := ztv e hf
 generalize fmS e = T at *
 obtain ⟨op, mn, mx, rs, ks⟩ := e
 rw [z5f] at hfm hfr ⊢
 have hm : ([.mk op mn mx rs ks] : List Rx).map rxc = [rx5 op mn mx rs ks] := by rw [List.map_cons, z2j]; rfl
 rw [hm] at hb
 refine z16 Tryz.func4 (by kernel_rfl) rfl (by simp) ?_
 dsimp only [Tryz.f4]
 refine z4n 700 0 700 hX0 rfl rfl ?_
 refine z4n 701 0 701 (z0v hX1 (by simp)) rfl rfl ?_
 cases bb
 all_goals repeat' (first | (apply z0e; (first | refine z13 rfl (by decide) ?_ | (apply z1y; (refine z0j (z27 rfl rfl (by decide)) ?_)))) | (apply z0f; (first | refine z0z ?_ | apply z0c)) | (apply z0d; (first | apply z0h | apply z01 | apply z3w)) | (apply z3x; (first | (apply z1v; refine z2o mix (by kernel_rfl) ?_) | refine z3u rfl rfl (by decide) ?_ | refine z6r rfl rfl (by decide) ?_ | refine z47 rfl (by first | exact rfl | exact ⟨_, rfl, rfl, rfl⟩) (by decide) ?_ | (apply z1g; (refine z0n (z2g rfl rfl rfl) (by first | exact rfl | exact ⟨_, rfl, rfl, rfl⟩) rfl rfl (by decide) ?_)) | (apply z2v; (first | refine zl2 ha (by first | exact rfl | exact ⟨_, rfl, rfl, rfl⟩) rfl rfl (by decide) ?_ | refine z8z hb (by first | exact rfl | exact ⟨_, rfl, rfl, rfl⟩) rfl (by decide) ?_ | refine z8z hfm (by first | exact rfl | exact ⟨_, rfl, rfl, rfl⟩) rfl (by decide) ?_ | refine z8z hfr (by first | exact rfl | exact ⟨_, rfl, rfl, rfl⟩) rfl (by decide) ?_)) | (apply zpi; (refine zs9 (by first | exact rfl | exact ⟨_, rfl, rfl, rfl⟩) rfl rfl rfl rfl rfl rfl rfl rfl (by decide) ?_)) | (refine z2n rfl rfl (fun hg => ?_) (fun hg => ?_) <;> simp only [hg] <;> (try simp only [decide_eq_true_eq, decide_eq_false_iff_not, Bool.not_eq_true', Bool.not_eq_false'] at hg)))))
 all_goals try (exfalso; first | omega | contradiction | (simp_all; done))
 all_goals refine z3q 700 0 700 (raw := .glob 0 τ.o0) rfl rfl (z0v (z2i _ (0, 700) _) (by simp)) rfl rfl ?_
 all_goals refine z3q 701 0 701 (raw := .glob 1 τ.o1) rfl rfl (z0v (z2i _ (0, 701) _) (by simp)) rfl rfl ?_
 all_goals exact z07 Tryz.func4 _ (z0a rfl rfl) ⟨rfl, z6e hX0 hX1⟩
end Go.Proofs.YtjmbjgecfpggdaaGreatDoor
