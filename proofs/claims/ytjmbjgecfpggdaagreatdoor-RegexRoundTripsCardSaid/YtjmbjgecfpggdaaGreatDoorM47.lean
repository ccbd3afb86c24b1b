/- A part of the proof: G47. -/
import Derived.Test.YtjmbjgecfpggdaaGreatDoorM46
import Derived.Test.YtjmbjgecfpggdaaGreatDoorRv
set_option linter.all false
set_option linter.unusedVariables false
set_option linter.unusedSimpArgs false
namespace Go.Proofs.YtjmbjgecfpggdaaGreatDoor
open Go.Ab Go.Rx
set_option maxHeartbeats 20000000
set_option maxRecDepth 100000
attribute [local irreducible] Run Ops Op1 z2r Val Tr z1n z36 NF Rel z5q z5r zad
theorem zt7 : ∀ e : Rx, fit e → z1n Tryz.prog 8 [.d (Drx e), .d (Drx e)] (B true) := by
 refine Rx.ind' fun op mn mx rs ks ih hfit => ?_
 obtain ⟨hf1, hf2, hf3⟩ := hfit
 rw [z2h]
 refine z1u fun H => ?_
 refine z16 Tryz.func8 (by kernel_rfl) rfl (by simp) ?_
 dsimp only [Tryz.f8]
 repeat' (first | (apply z0e; (first | refine z13 rfl (by decide) ?_ | (apply z09; (refine z00 (z0k rfl rfl rfl rfl) rfl rfl (by decide) ?_)) | (apply z08; (refine z00 (z03 rfl rfl) rfl rfl (by decide) ?_)) | (apply z1k; (refine z00 (z1p rfl) rfl rfl (by decide) ?_)) | (apply z1y; (refine z0j (z3b rfl rfl rfl rfl rfl (by decide)) ?_)))) | (apply z0f; (first | refine z0z ?_ | apply z0c | refine z2e rfl rfl (by decide) ?_ | refine z3h rfl rfl (fun _ => ?_) (fun _ => ?_))) | (apply z0d; (first | apply z0h | apply z01 | refine z0o rfl ?_ | apply z06 | apply z02 | refine z2w rfl (fun _ => ?_) (fun _ => ?_))))
 all_goals try (exfalso; omega)
 refine z2b ?_
 refine z0y (z3e (fun q : Nat => ⟨81, [(2, .ptr (0, 2) 0), (3, .ptr (0, 3) 0), (46, I .i64 rs.length), (47, I .i64 (q : Nat))], [(2, .box ((rx5 op mn mx rs ks).map .d)), (3, .box ((rx5 op mn mx rs ks).map .d))], H⟩) (fun q => q ≤ rs.length) (fun q => rs.length - q) ?_ 0 (Nat.zero_le _)) rfl rfl
 intro i i1 ihl
 by_cases hlt : i < rs.length
 · obtain ⟨r, hr⟩ : ∃ r, rs[i]? = some r := ⟨_, List.getElem?_eq_getElem hlt⟩
   repeat' (first | (apply z0e; (first | refine z13 rfl (by decide) ?_ | (apply z09; (refine z00 (z0k rfl rfl rfl rfl) rfl rfl (by decide) ?_)) | (apply z08; (refine z00 (z03 rfl rfl) rfl rfl (by decide) ?_)) | (apply z19; (refine z00 (z1e (z1s (by omega) (by omega))) rfl rfl (by decide) ?_)) | (apply z1k; (refine z00 (z1p rfl) rfl rfl (by decide) ?_)))) | (apply z0f; (first | refine z0z ?_ | apply z0c)) | (apply z0d; (first | apply z0h | apply z01 | refine z0g rfl ?_ | apply z06 | apply z02 | apply z3w | apply z04 | refine z1o rfl (fun _ => ?_) (fun _ => ?_) | refine z0r rfl ?_)) | (apply z3x; (first | (apply z1v; refine z2o mix (by kernel_rfl) ?_) | refine z47 rfl (by first | exact rfl | exact ⟨_, rfl, rfl, rfl⟩) (by decide) ?_ | (apply z1g; (first | refine z0n (z0k rfl rfl rfl rfl) (by first | exact rfl | exact ⟨_, rfl, rfl, rfl⟩) rfl rfl (by decide) ?_ | refine z0n (z0w rfl rfl) (by first | exact rfl | exact ⟨_, rfl, rfl, rfl⟩) rfl rfl (by decide) ?_)) | (apply z1b; (refine z0n (z03 rfl rfl) (by first | exact rfl | exact ⟨_, rfl, rfl, rfl⟩) rfl rfl (by decide) ?_)) | (apply z1w; (refine z0n (z0t (ys := rs.map rgc) rfl (by omega) (idx hr) rfl) (by first | exact rfl | exact ⟨_, rfl, rfl, rfl⟩) rfl rfl (by decide) ?_)) | (apply z4y; (refine z0n (zvc (op := .neq) (tx := 52) (zvp r)) (by first | exact rfl | exact ⟨_, rfl, rfl, rfl⟩) rfl rfl (by decide) ?_)))))
   all_goals try (exfalso; omega)
   all_goals exact z0y (ihl (i + 1) (by omega) (by omega)) rfl rfl
 · obtain rfl : i = rs.length := by omega
   clear ihl
   repeat' (first | (apply z0e; (first | refine z13 rfl (by decide) ?_ | (apply z09; (refine z00 (z0k rfl rfl rfl rfl) rfl rfl (by decide) ?_)) | (apply z08; (refine z00 (z03 rfl rfl) rfl rfl (by decide) ?_)) | (apply z1k; (refine z00 (z1p rfl) rfl rfl (by decide) ?_)))) | (apply z0f; (first | refine z0z ?_ | apply z0c)) | (apply z0d; (first | apply z0h | apply z01 | apply z06 | apply z02 | apply z3w | refine z1o rfl (fun _ => ?_) (fun _ => ?_) | refine z0r rfl ?_)) | (apply z3x; (first | refine z47 rfl (by first | exact rfl | exact ⟨_, rfl, rfl, rfl⟩) (by decide) ?_ | (apply z1g; (refine z0n (z0k rfl rfl rfl rfl) (by first | exact rfl | exact ⟨_, rfl, rfl, rfl⟩) rfl rfl (by decide) ?_)) | (apply z1b; (refine z0n (z03 rfl rfl) (by first | exact rfl | exact ⟨_, rfl, rfl, rfl⟩) rfl rfl (by decide) ?_)))))
   all_goals try (exfalso; omega)
   refine z2b ?_
   refine z0y (z3e (fun q : Nat => ⟨81, [(2, .ptr (0, 2) 0), (3, .ptr (0, 3) 0), (64, I .i64 ks.length), (65, I .i64 (q : Nat))], [(2, .box ((rx5 op mn mx rs ks).map .d)), (3, .box ((rx5 op mn mx rs ks).map .d))], H⟩) (fun q => q ≤ ks.length) (fun q => ks.length - q) ?_ 0 (Nat.zero_le _)) rfl rfl
   intro i i1 ihl
   by_cases hlt : i < ks.length
   · obtain ⟨k, hk⟩ : ∃ k, ks[i]? = some k := ⟨_, List.getElem?_eq_getElem hlt⟩
     have hc := ih k (List.mem_of_getElem? hk) (z3o hf3 k (List.mem_of_getElem? hk))
     obtain ⟨op', mn', mx', rs', ks'⟩ := k
     rw [z2h] at hc
     repeat' (first | (apply z0e; (first | refine z13 rfl (by decide) ?_ | (apply z19; (refine z00 (z1e (z1s (by omega) (by omega))) rfl rfl (by decide) ?_)))) | (apply z0f; (first | refine z0z ?_ | apply z0c)) | (apply z0d; (first | apply z0h | apply z01 | refine z0g rfl ?_ | apply z06 | apply z02 | apply z3w | apply z04 | refine z1o rfl (fun _ => ?_) (fun _ => ?_) | refine z0r rfl ?_)) | (apply z3x; (first | (apply z1v; refine z2o mix (by kernel_rfl) ?_) | refine z47 rfl (by first | exact rfl | exact ⟨_, rfl, rfl, rfl⟩) (by decide) ?_ | (apply z1g; (first | refine z0n (z0k rfl rfl rfl rfl) (by first | exact rfl | exact ⟨_, rfl, rfl, rfl⟩) rfl rfl (by decide) ?_ | refine z0n (z0w rfl rfl) (by first | exact rfl | exact ⟨_, rfl, rfl, rfl⟩) rfl rfl (by decide) ?_)) | (apply z1b; (refine z0n (z03 rfl rfl) (by first | exact rfl | exact ⟨_, rfl, rfl, rfl⟩) rfl rfl (by decide) ?_)) | (apply z1w; (refine z0n (z0t (ys := ks.map rxc) rfl (by omega) (z3l hk) rfl) (by first | exact rfl | exact ⟨_, rfl, rfl, rfl⟩) rfl rfl (by decide) ?_)) | (apply z2v; (refine z8z hc (by first | exact rfl | exact ⟨_, rfl, rfl, rfl⟩) rfl (by decide) ?_)))))
     all_goals try (exfalso; omega)
     all_goals exact z0y (ihl (i + 1) (by omega) (by omega)) rfl rfl
   · obtain rfl : i = ks.length := by omega
     repeat' (first | (apply z0e; (refine z13 rfl (by decide) ?_)) | (apply z0f; (first | refine z0z ?_ | apply z0c)) | (apply z0d; (first | apply z0h | apply z01 | apply z06 | apply z02 | apply z3w | refine z1o rfl (fun _ => ?_) (fun _ => ?_) | refine z0r rfl ?_)) | (apply z3x; (first | refine z47 rfl (by first | exact rfl | exact ⟨_, rfl, rfl, rfl⟩) (by decide) ?_ | (apply z1g; (refine z0n (z0k rfl rfl rfl rfl) (by first | exact rfl | exact ⟨_, rfl, rfl, rfl⟩) rfl rfl (by decide) ?_)) | (apply z1b; (refine z0n (z03 rfl rfl) (by first | exact rfl | exact ⟨_, rfl, rfl, rfl⟩) rfl rfl (by decide) ?_)))))
     all_goals try (exfalso; omega)
     all_goals exact z07 Tryz.func8 _ (z0a rfl rfl) ⟨rfl, rfl⟩
/-- what is written is read back -/
theorem zk6 {e : Rx} (hv : val e = 0) (hw : wrt e = true) (hs : (txE (fm e 0)).size ≤ 200) : z7y (txE (fm e 0)) = (e, 0, 0) := by
 obtain ⟨h1, h2⟩ := zlp hv hw (txE (fm e 0)).size 0 rfl (z74 hv)
 rw [z7y, if_neg (by omega)]
 have nb : ∀ (l : List U) (i : Nat), l.all zrx = true → (unF i l).find? zem = none := fun l => by
  induction l with
  | nil => intro i _; rfl
  | cons u l ih =>
   intro i h
   rw [List.all_cons, Bool.and_eq_true] at h
   have hb : zem (u.r, (i : Int), (u.n : Int)) = false := by
    have h1 := h.1
    simp only [zrx, Bool.or_eq_true, Bool.not_eq_true', decide_eq_false_iff_not, decide_eq_true_eq] at h1
    simp only [zem, Bool.and_eq_false_iff, decide_eq_false_iff_not]
    rcases h1 with h1 | h1
    · exact .inl h1
    · exact .inr (by omega)
   rw [unF, List.find?_cons, hb]
   exact ih _ h.2
 rw [nb _ _ h1]
 exact h2
theorem znu {e : Rx} (hv : val e = 0) (h : ¬ wrt e = true) : ¬ (e.op = 2 ∧ e.ks = []) := by
 rintro ⟨h2, h3⟩
 obtain ⟨op, mn, mx, rs, ks⟩ := e
 obtain rfl : op = 2 := h2
 obtain rfl : ks = [] := h3
 have := z74 hv
 rw [vns, Bool.and_eq_true] at this
 rcases z43 this.1 with ⟨h, _⟩ | ⟨_, _, _, rfl, _⟩ | ⟨h, _⟩ | ⟨h, _⟩
 · cases h
 · exact h rfl
 · cases h
 · cases h
end Go.Proofs.YtjmbjgecfpggdaaGreatDoor
