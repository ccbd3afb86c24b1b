/- A part of the proof: Z2. -/
import Derived.Test.YtjmbjgecfpggdaaGreatDoorRs
import Derived.Test.YtjmbjgecfpggdaaGreatDoorRp
import Derived.Test.YtjmbjgecfpggdaaGreatDoorMX23
import Derived.Test.YtjmbjgecfpggdaaGreatDoorMX24
import Derived.Test.YtjmbjgecfpggdaaGreatDoorRc
set_option linter.all false
set_option linter.unusedVariables false
set_option linter.unusedSimpArgs false
namespace Go.Proofs.YtjmbjgecfpggdaaGreatDoor
open Go.Ab Go.Rx
set_option maxHeartbeats 20000000
set_option maxRecDepth 100000
attribute [local irreducible] Run Ops Op1 z2r Val Tr z1n z36 NF Rel z5q z5r
theorem zoh (sp : List Int) : (spB sp).size = sp.length := by simp [spB, ByteArray.size]
theorem zu9 {sp : List Int} (h : Sp sp) {q : Nat} {c : Int} (hq : sp[q]? = some c) : Utf8.decode (spB sp) q = (c.toNat, 1) := by
 obtain ⟨hl, _⟩ := List.getElem?_eq_some_iff.1 hq
 have hlt : q < (spB sp).size := by rw [zoh]; exact hl
 have hr := h.rng c (List.mem_of_getElem? hq)
 have hb : (spB sp)[q]'hlt = UInt8.ofNat c.toNat := by
  have : (spB sp)[q]? = some (UInt8.ofNat c.toNat) := by
   show (spB sp).data[q]? = _
   rw [spB]
   simp [hq]
  rw [getElem?_pos _ q hlt] at this
  exact Option.some.inj this
 have hn : ((spB sp)[q]'hlt).toNat = c.toNat := by rw [hb]; simp; omega
 rw [decode_ascii (spB sp) q hlt (by rw [hn]; omega), hn]
theorem zwh {sp : List Int} (hsp : Sp sp) (c : Int) : z1n Tryz.prog 81 [S (spB sp), I .i32 c] (B (sp.contains c)) := by
 refine z1u fun H => ?_
 have hsl := zoh sp
 have hsz := hsp.size
 refine z16 Tryz.func81 (by kernel_rfl) rfl (by simp) ?_
 dsimp only [Tryz.f81]
 repeat' (first | (apply z0e; (first | refine z13 rfl (by decide) ?_ | refine zb5 rfl rfl rfl (by decide) ?_)) | (apply z0f; (first | refine z0z ?_ | apply z0c)) | (apply z0d; (first | apply z0h | apply z01 | apply z02)))
 all_goals try (exfalso; omega)
 refine z2b ?_
 refine z0y (z3e (fun q : Nat => ⟨15, [(1, I .i32 c), (8, .ptr (0, 8) 0)], [(8, .siter (spB sp) q)], H⟩) (fun q => q ≤ (spB sp).size ∧ (sp.drop q).contains c = sp.contains c) (fun q => (spB sp).size - q) ?_ 0 ⟨Nat.zero_le _, rfl⟩) rfl rfl
 rintro q ⟨i1, i2⟩ ih
 by_cases hlt : q < (spB sp).size
 · obtain ⟨x, hx⟩ : ∃ x, sp[q]? = some x := ⟨_, List.getElem?_eq_getElem (by omega)⟩
   have hd := zu9 hsp hx
   have hr := hsp.rng x (List.mem_of_getElem? hx)
   rw [drop_cons hx, List.contains_cons] at i2
   have h1 : ((Utf8.decode (spB sp) q).1 : Int) = x := by rw [hd]; simp only; omega
   have h2 : (Utf8.decode (spB sp) q).2 = 1 := by rw [hd]
   by_cases hc : x = c
   · rw [show (c == x) = true by simp [hc], Bool.true_or] at i2
     rw [← i2]
     repeat' (first | (apply z0e; (first | refine z13 rfl (by decide) ?_ | refine z3y hlt rfl rfl (by decide) ?_)) | (apply z0f; (first | refine z0z ?_ | apply z0c)) | (apply z0d; (first | apply z0h | apply z01 | refine z0o rfl ?_ | apply z06 | apply z02 | apply z04 | refine z1o rfl (fun _ => ?_) (fun _ => ?_))))
     all_goals try (exfalso; omega)
     all_goals exact z07 Tryz.func81 _ (z0a rfl rfl) ⟨rfl, rfl⟩
   · rw [show (c == x) = false by simp; omega, Bool.false_or] at i2
     have ih' := ih (q + (Utf8.decode (spB sp) q).2) ⟨by omega, by rw [h2]; exact i2⟩ (by omega)
     repeat' (first | (apply z0e; (first | refine z13 rfl (by decide) ?_ | refine z3y hlt rfl rfl (by decide) ?_)) | (apply z0f; (first | refine z0z ?_ | apply z0c)) | (apply z0d; (first | apply z0h | apply z01 | refine z0o rfl ?_ | apply z06 | apply z02 | apply z04 | refine z1o rfl (fun _ => ?_) (fun _ => ?_))))
     all_goals try (exfalso; omega)
     all_goals exact z0y ih' rfl rfl
 · rw [List.drop_eq_nil_of_le (by omega)] at i2
   rw [← i2]
   repeat' (first | (apply z0e; (first | refine z13 rfl (by decide) ?_ | refine z3z hlt rfl rfl (by decide) ?_)) | (apply z0f; (first | refine z0z ?_ | apply z0c)) | (apply z0d; (first | apply z0h | apply z01 | refine z0g rfl ?_ | refine z0r rfl ?_)))
   all_goals try (exfalso; omega)
   all_goals exact z07 Tryz.func81 _ (z0a rfl rfl) ⟨rfl, rfl⟩
theorem zef {sp : List Int} (hsp : Sp sp) (c : Int) : z1n Tryz.prog 66 [I .i32 c, S (spB sp)] (S (txE (quo sp c))) := by
 refine z1u fun H => ?_
 have hcr := zwh hsp c
 have hen := (z2m [c]).2
 refine z16 Tryz.func66 (by kernel_rfl) rfl (by simp) ?_
 dsimp only [Tryz.f66]
 rw [quo]
 cases hc : sp.contains c with
 | true =>
  rw [hc] at hcr
  rw [if_pos rfl, show txE [92, c] = (⟨#[92]⟩ : ByteArray) ++ Utf8.encode c by rw [← z6b]; exact z1q [92] [c]]
  rw [z6b] at hen
  have h92 : (⟨#[92]⟩ : ByteArray).size = 1 := rfl
  have hl1 : [c].length = 1 := rfl
  repeat' (first | (apply z0e; (first | refine z13 rfl (by decide) ?_ | (apply z0l; (refine z1z hcr rfl (by decide) ?_)) | (apply z4p; (refine z00 (z4v rfl rfl) rfl rfl (by decide) ?_)) | refine z00 (z29 (by omega)) rfl rfl (by decide) ?_)) | (apply z0f; (first | refine z0z ?_ | apply z0c)) | (apply z0d; (first | apply z0h | apply z01 | refine z0o rfl ?_)))
  all_goals try (exfalso; omega)
  all_goals exact z07 Tryz.func66 _ (z0a rfl rfl) ⟨rfl, rfl⟩
 | false =>
  rw [hc] at hcr
  rw [if_neg (by decide), z6b]
  repeat' (first | (apply z0e; (first | refine z13 rfl (by decide) ?_ | (apply z0l; (refine z1z hcr rfl (by decide) ?_)) | (apply z4p; (refine z00 (z4v rfl rfl) rfl rfl (by decide) ?_)))) | (apply z0f; (first | refine z0z ?_ | apply z0c)) | (apply z0d; (first | apply z0h | apply z01 | refine z0g rfl ?_ | apply z06)))
  all_goals try (exfalso; omega)
  all_goals exact z07 Tryz.func66 _ (z0a rfl rfl) ⟨rfl, rfl⟩
theorem zey (n : Int) (h0 : 0 ≤ n) (h1 : n ≤ 16) : z1n Tryz.prog 48 [I .i64 n] (S (txE (dgs n))) := by
 refine z1u fun H => ?_
 have hw0 : n < 10 → IntKind.i32.wrap (48 + n) = 48 + n := fun h => by simp [IntKind.wrap, IntKind.bits, IntKind.signed]; omega
 have hw1 : IntKind.i32.wrap (48 + n / 10) = 48 + n / 10 := by simp [IntKind.wrap, IntKind.bits, IntKind.signed]; omega
 have hw2 : IntKind.i32.wrap (48 + n % 10) = 48 + n % 10 := by simp [IntKind.wrap, IntKind.bits, IntKind.signed]; omega
 have z1 := (z2m [48 + n / 10]).2
 have z2 := (z2m [48 + n % 10]).2
 rw [z6b] at z1 z2
 simp only [List.length_singleton] at z1 z2
 refine z16 Tryz.func48 (by kernel_rfl) rfl (by simp) ?_
 dsimp only [Tryz.f48]
 rw [dgs]
 by_cases h : n < 10
 · have hw0 := hw0 h
   rw [if_pos h, z6b]
   repeat' (first | (apply z0e; (first | refine z13 rfl (by decide) ?_ | (apply z19; (refine z00 (z1e (z1s (by omega) (by omega))) rfl rfl (by decide) ?_)) | (apply z4p; (first | refine z00 (z6h rfl rfl hw0) rfl rfl (by decide) ?_ | refine z00 (z4v rfl rfl) rfl rfl (by decide) ?_)))) | (apply z0f; (first | refine z0z ?_ | apply z0c)) | (apply z0d; (first | apply z0h | apply z01 | apply z06 | refine z1o rfl (fun _ => ?_) (fun _ => ?_))))
   all_goals try (exfalso; omega)
   all_goals exact z07 Tryz.func48 _ (z0a rfl rfl) ⟨rfl, rfl⟩
 · rw [if_neg h, show txE [48 + n / 10, 48 + n % 10] = Utf8.encode (48 + n / 10) ++ Utf8.encode (48 + n % 10) by rw [← z6b, ← z6b]; exact z1q [48 + n / 10] [48 + n % 10]]
   repeat' (first | (apply z0e; (first | refine z13 rfl (by decide) ?_ | (apply z19; (first | refine z00 (zu8 (by omega) (by omega) (z1s (by omega) (by omega))) rfl rfl (by decide) ?_ | refine z00 (zsn (by omega) (by omega)) rfl rfl (by decide) ?_ | refine z00 (z1e (z1s (by omega) (by omega))) rfl rfl (by decide) ?_)) | (apply z4p; (first | refine z00 (z6h rfl rfl hw2) rfl rfl (by decide) ?_ | refine z00 (z6h rfl rfl hw1) rfl rfl (by decide) ?_ | refine z00 (z4v rfl rfl) rfl rfl (by decide) ?_)) | refine z00 (z29 (by omega)) rfl rfl (by decide) ?_)) | (apply z0f; (first | refine z0z ?_ | apply z0c)) | (apply z0d; (first | apply z0h | apply z01 | apply z06 | refine z1o rfl (fun _ => ?_) (fun _ => ?_))))
   all_goals try (exfalso; omega)
   all_goals exact z07 Tryz.func48 _ (z0a rfl rfl) ⟨rfl, rfl⟩
end Go.Proofs.YtjmbjgecfpggdaaGreatDoor
