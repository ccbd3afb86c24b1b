/- A part of the proof: Z2. -/
import Derived.Test.YtjmbjgecfpggdaaGreatDoorRs
import Derived.Test.YtjmbjgecfpggdaaGreatDoorRp
import Derived.Test.YtjmbjgecfpggdaaGreatDoorMX23
import Derived.Test.YtjmbjgecfpggdaaGreatDoorRx
import Derived.Test.YtjmbjgecfpggdaaGreatDoorRc
set_option linter.all false
set_option linter.unusedVariables false
set_option linter.unusedSimpArgs false
namespace Go.Proofs.YtjmbjgecfpggdaaGreatDoor
open Go.Ab Go.Rx
set_option maxHeartbeats 20000000
set_option maxRecDepth 100000
attribute [local irreducible] Run Ops Op1 z2q Val Tr z1p z2j NF Rel z5b z5c
theorem zoh (sp : List Int) : (spB sp).size = sp.length := by simp [spB, ByteArray.size]
theorem zti {sp : List Int} (h : Sp sp) {q : Nat} {c : Int} (hq : sp[q]? = some c) : Utf8.decode (spB sp) q = (c.toNat, 1) := by
 obtain ⟨hl, _⟩ := List.getElem?_eq_some_iff.1 hq
 have hlt : q < (spB sp).size := by rw [zoh]; exact hl
 have hr := h.rng c (List.mem_of_getElem? hq)
 have hb : (spB sp)[q]'hlt = UInt8.ofNat c.toNat := by
  have : (spB sp)[q]? = some (UInt8.ofNat c.toNat) := by
   show (spB sp).data[q]? = _
   rw [spB]
   simp [hq]
  rw [getElem?_pos _ q hlt] at this
  exact Option.some.inj this
 have hn : ((spB sp)[q]'hlt).toNat = c.toNat := by rw [hb]; simp; omega
 rw [decode_ascii (spB sp) q hlt (by rw [hn]; omega), hn]
theorem zw3 {sp : List Int} (hsp : Sp sp) (c : Int) : z1p Tryz.prog 81 [S (spB sp), I .i32 c] (B (sp.contains c)) := by
 refine z2e fun H => ?_
 have hsl := zoh sp
 have hsz := hsp.size
 refine z1c Tryz.func81 (by kernel_rfl) rfl (by simp) ?_
 dsimp only [Tryz.f81]
 repeat' (first | (apply z0e; (first | refine z11 rfl (by decide) ?_ | refine zab rfl rfl rfl (by decide) ?_)) | (apply z0b; (first | refine z10 ?_ | apply z0d)) | (apply z0c; (first | apply z0f | apply z01 | apply z03)))
 all_goals try (exfalso; omega)
 refine z1x ?_
 refine z0s (z2u (fun q : Nat => ⟨15, [(1, I .i32 c), (8, .ptr (0, 8) 0)], [(8, .siter (spB sp) q)], H⟩) (fun q => q ≤ (spB sp).size ∧ (sp.drop q).contains c = sp.contains c) (fun q => (spB sp).size - q) ?_ 0 ⟨Nat.zero_le _, rfl⟩) rfl rfl
 rintro q ⟨i1, i2⟩ ih
 by_cases hlt : q < (spB sp).size
 · obtain ⟨x, hx⟩ : ∃ x, sp[q]? = some x := ⟨_, List.getElem?_eq_getElem (by omega)⟩
   have hd := zti hsp hx
   have hr := hsp.rng x (List.mem_of_getElem? hx)
   rw [drop_cons hx, List.contains_cons] at i2
   have h1 : ((Utf8.decode (spB sp) q).1 : Int) = x := by rw [hd]; simp only; omega
   have h2 : (Utf8.decode (spB sp) q).2 = 1 := by rw [hd]
   by_cases hc : x = c
   · rw [show (c == x) = true by simp [hc], Bool.true_or] at i2
     rw [← i2]
     repeat' (first | (apply z0e; (first | refine z11 rfl (by decide) ?_ | refine z3l hlt rfl rfl (by decide) ?_)) | (apply z0b; (first | refine z10 ?_ | apply z0d)) | (apply z0c; (first | apply z0f | apply z01 | refine z0r rfl ?_ | apply z09 | apply z03 | apply z08 | refine z1i rfl (fun _ => ?_) (fun _ => ?_))))
     all_goals try (exfalso; omega)
     all_goals exact z0g Tryz.func81 _ (z0j rfl rfl) ⟨rfl, rfl⟩
   · rw [show (c == x) = false by simp; omega, Bool.false_or] at i2
     have ih' := ih (q + (Utf8.decode (spB sp) q).2) ⟨by omega, by rw [h2]; exact i2⟩ (by omega)
     repeat' (first | (apply z0e; (first | refine z11 rfl (by decide) ?_ | refine z3l hlt rfl rfl (by decide) ?_)) | (apply z0b; (first | refine z10 ?_ | apply z0d)) | (apply z0c; (first | apply z0f | apply z01 | refine z0r rfl ?_ | apply z09 | apply z03 | apply z08 | refine z1i rfl (fun _ => ?_) (fun _ => ?_))))
     all_goals try (exfalso; omega)
     all_goals exact z0s ih' rfl rfl
 · rw [List.drop_eq_nil_of_le (by omega)] at i2
   rw [← i2]
   repeat' (first | (apply z0e; (first | refine z11 rfl (by decide) ?_ | refine z3m hlt rfl rfl (by decide) ?_)) | (apply z0b; (first | refine z10 ?_ | apply z0d)) | (apply z0c; (first | apply z0f | apply z01 | refine z0h rfl ?_ | refine z0p rfl ?_)))
   all_goals try (exfalso; omega)
   all_goals exact z0g Tryz.func81 _ (z0j rfl rfl) ⟨rfl, rfl⟩
end Go.Proofs.YtjmbjgecfpggdaaGreatDoor
