/- A part of the proof: G43. -/
import Derived.Test.YtjmbjgecfpggdaaGreatDoorRu
import Derived.Test.YtjmbjgecfpggdaaGreatDoorMhj
import Derived.Test.YtjmbjgecfpggdaaGreatDoorMX23
import Derived.Test.YtjmbjgecfpggdaaGreatDoorRc
set_option linter.all false
set_option linter.unusedVariables false
set_option linter.unusedSimpArgs false
namespace Go.Proofs.YtjmbjgecfpggdaaGreatDoor
open Go.Ab Go.Rx
set_option maxHeartbeats 20000000
set_option maxRecDepth 100000
attribute [local irreducible] Run Ops Op1 z2r Val Tr z1n z36 NF Rel z5q z5r zad
theorem zdl {sp : List Int} (hsp : Sp sp) (c : Int) (h0 : 0 ≤ c) (h1 : c ≤ 1114111) : z1n Tryz.prog 60 [I .i32 c, S (spB sp)] (S (txE (quo sp c))) := by
 refine z1u fun H => ?_
 have hcr := z52 hsp c (by omega) h1
 have hen := (z2m [c]).2
 refine z16 Tryz.func60 (by kernel_rfl) rfl (by simp) ?_
 dsimp only [Tryz.f60]
 rw [quo]
 cases hc : sp.contains c with
 | true =>
  rw [hc] at hcr
  rw [if_pos rfl, show txE [92, c] = (⟨#[92]⟩ : ByteArray) ++ Utf8.encode c by rw [← z6b]; exact z1q [92] [c]]
  rw [z6b] at hen
  have h92 : (⟨#[92]⟩ : ByteArray).size = 1 := rfl
  have hl1 : [c].length = 1 := rfl
  repeat' (first | (apply z0e; (first | refine z13 rfl (by decide) ?_ | (apply z0l; (refine z1z hcr rfl (by decide) ?_)) | (apply z4p; (refine z00 (z4v rfl rfl) rfl rfl (by decide) ?_)) | refine z00 (z29 (by omega)) rfl rfl (by decide) ?_)) | (apply z0f; (first | refine z0z ?_ | apply z0c)) | (apply z0d; (first | apply z0h | apply z01 | refine z0o rfl ?_)))
  all_goals try (exfalso; omega)
  all_goals exact z07 Tryz.func60 _ (z0a rfl rfl) ⟨rfl, rfl⟩
 | false =>
  rw [hc] at hcr
  rw [if_neg (by decide), z6b]
  repeat' (first | (apply z0e; (first | refine z13 rfl (by decide) ?_ | (apply z0l; (refine z1z hcr rfl (by decide) ?_)) | (apply z4p; (refine z00 (z4v rfl rfl) rfl rfl (by decide) ?_)))) | (apply z0f; (first | refine z0z ?_ | apply z0c)) | (apply z0d; (first | apply z0h | apply z01 | refine z0g rfl ?_ | apply z06)))
  all_goals try (exfalso; omega)
  all_goals exact z07 Tryz.func60 _ (z0a rfl rfl) ⟨rfl, rfl⟩
theorem ztt (s p : ByteArray) : z1n Tryz.prog 65 [S s, S p] (S ⟨(Lib.trimPrefix s.data.toList p.data.toList).toArray⟩) := by
 refine z9h ⟨_, Tryz.func65, by kernel_rfl, by kernel_rfl⟩ fun β own w vals hA => ?_
 obtain ⟨hl, ha⟩ := hA
 obtain ⟨v, u, rfl⟩ : ∃ v u, vals = [v, u] := by
  match vals, hl with
  | [v, u], _ => exact ⟨v, u, rfl⟩
 have hv := PR.lit (ha 0 _ v rfl rfl)
 have hu := PR.lit (ha 1 _ u rfl rfl)
 subst hv hu
 exact ⟨_, strings_TrimPrefix s p w, fun w' own' => PR.S _⟩
def jnB (L : List ByteArray) (sep : ByteArray) : ByteArray := ⟨(Lib.join (L.map (·.data.toList)) sep.data.toList).toArray⟩
theorem zov (L : List ByteArray) (sep : ByteArray) (hN : L.length ≤ 140737488355328) (hlen : (jnB L sep).size ≤ 140737488355328) : z1n Tryz.prog 45 [.d (.slice (L.map fun s => [.lit (.string s)])), S sep] (S (jnB L sep)) := by
 have := zb8 (P := Tryz.prog) (g := 45) (ps := [.d (.slice (L.map fun s => [.lit (.string s)])), S sep]) (p := S (jnB L sep)) (bs := []) ⟨_, Tryz.func45, by kernel_rfl, by kernel_rfl⟩ fun H hH β own w vals hHR hA => by
  obtain ⟨hl, ha⟩ := hA
  obtain ⟨v, u, rfl⟩ : ∃ v u, vals = [v, u] := by
   match vals, hl with
   | [v, u], _ => exact ⟨v, u, rfl⟩
  have hv := zqq (ha 0 _ v rfl rfl)
  have hu := PR.lit (ha 1 _ u rfl rfl)
  subst hu
  rcases hv with ⟨rfl, a, cap, rfl⟩ | ⟨g, o, cap, rfl, h1, h2, h3⟩
  · exact ⟨_, (strings_Join_none a cap sep w).mono fun e w' ⟨he, hw⟩ => ⟨he, hw ▸ RowKit.Below.refl _ _⟩, fun w' own' => PR.S _⟩
  · exact ⟨_, strings_Join g o cap L sep w h3 h2 hN h1 (by
     have : (jnB L sep).size = (Lib.join (L.map (·.data.toList)) sep.data.toList).length := by rw [jnB]; simp [ByteArray.size]
     rw [← this]; exact hlen), fun w' own' => PR.S _⟩
 unfold z1n
 intro H
 unfold z36 at this
 exact this H (by simp)
theorem zn0 (n : Int) (h0 : 0 ≤ n) (h1 : n ≤ 16) : (⟨(Lib.trimPrefix (runesBytes [48 + n / 10, 48 + n % 10]).data.toList (⟨#[48]⟩ : ByteArray).data.toList).toArray⟩ : ByteArray) = txE (dgs n) := by
 have : ∀ k : Fin 17, (⟨(Lib.trimPrefix (runesBytes [48 + (k.val : Int) / 10, 48 + (k.val : Int) % 10]).data.toList (⟨#[48]⟩ : ByteArray).data.toList).toArray⟩ : ByteArray) = txE (dgs (k.val : Int)) := by decide +kernel
 have := this ⟨n.toNat, by omega⟩
 rwa [show ((⟨n.toNat, by omega⟩ : Fin 17).val : Int) = n by simp; omega] at this
theorem zhc (n : Int) (h0 : 0 ≤ n) (h1 : n ≤ 16) : z1n Tryz.prog 64 [I .i64 n] (S (txE (dgs n))) := by
 refine z1u fun H => ?_
 have ht := ztt (runesBytes [48 + n / 10, 48 + n % 10]) ⟨#[48]⟩
 rw [zn0 n h0 h1] at ht
 refine z16 Tryz.func64 (by kernel_rfl) rfl (by simp) ?_
 dsimp only [Tryz.f64]
 have hw1 : IntKind.i32.wrap (48 + n / 10) = 48 + n / 10 := by simp [IntKind.wrap, IntKind.bits, IntKind.signed]; omega
 have hw2 : IntKind.i32.wrap (48 + n % 10) = 48 + n % 10 := by simp [IntKind.wrap, IntKind.bits, IntKind.signed]; omega
 repeat' (first | (apply z0e; (first | refine z13 rfl (by decide) ?_ | (apply z19; (first | refine z00 (zu8 (by omega) (by omega) (z1s (by omega) (by omega))) rfl rfl (by decide) ?_ | refine z00 (zsn (by omega) (by omega)) rfl rfl (by decide) ?_ | refine z00 (z1e (z1s (by omega) (by omega))) rfl rfl (by decide) ?_)) | (apply z0l; (refine z1z ht rfl (by decide) ?_)) | (apply z3p; (refine z3n rfl rfl rfl rfl rfl rfl rfl rfl (by decide) ?_)) | (apply z4p; (first | refine z00 (z6h rfl rfl hw2) rfl rfl (by decide) ?_ | refine z00 (z6h rfl rfl hw1) rfl rfl (by decide) ?_)) | refine z00 (zqx (l := [48 + n / 10, 48 + n % 10]) rfl rfl rfl) rfl rfl (by decide) ?_)) | (apply z0f; (first | refine z0z ?_ | apply z0c)) | (apply z0d; (first | apply z0h | apply z01)))
 all_goals try (exfalso; omega)
 all_goals exact z07 Tryz.func64 _ (z0a rfl rfl) ⟨rfl, rfl⟩
theorem zim (n : Int) : (txE (dgs n)).size ≤ 8 := by
 have h1 := (z2m (dgs n)).2
 have h2 := zma n
 omega
theorem zml (lo hi : Int) (h0 : 0 ≤ lo) (h1 : lo ≤ 16) (h2 : hi = -1 ∨ lo ≤ hi ∧ hi ≤ 16) : z1n Tryz.prog 46 [I .i64 lo, I .i64 hi] (S (txE (z6a lo hi))) := by
 refine z1u fun H => ?_
 have hd1 := zhc lo h0 h1
 have l1 := zim lo
 have l2 := zim hi
 have z1 : (⟨#[123]⟩ : ByteArray).size = 1 := rfl
 have z2 : (⟨#[44, 125]⟩ : ByteArray).size = 2 := rfl
 have z3 : (⟨#[125]⟩ : ByteArray).size = 1 := rfl
 have z4 : (⟨#[44]⟩ : ByteArray).size = 1 := rfl
 have sa : ∀ a b : ByteArray, (a ++ b).size = a.size + b.size := fun a b => by simp
 refine z16 Tryz.func46 (by kernel_rfl) rfl (by simp) ?_
 dsimp only [Tryz.f46]
 unfold z6a
 by_cases c1 : lo = 0 ∧ hi = -1
 · obtain ⟨rfl, rfl⟩ := c1
   rw [if_pos ⟨rfl, rfl⟩]
   repeat' (first | (apply z0e; (refine z13 rfl (by decide) ?_)) | (apply z0f; (first | refine z0z ?_ | apply z0c)) | (apply z0d; (first | apply z0h | apply z01 | refine z0o rfl ?_ | apply z02)))
   all_goals try (exfalso; omega)
   all_goals exact z07 Tryz.func46 _ (z0a rfl rfl) ⟨rfl, rfl⟩
 rw [if_neg c1]
 by_cases c2 : lo = 1 ∧ hi = -1
 · obtain ⟨rfl, rfl⟩ := c2
   rw [if_pos ⟨rfl, rfl⟩]
   repeat' (first | (apply z0e; (refine z13 rfl (by decide) ?_)) | (apply z0f; (first | refine z0z ?_ | apply z0c | refine z2e rfl rfl (by decide) ?_)) | (apply z0d; (first | apply z0h | apply z01 | refine z0o rfl ?_ | refine z0g rfl ?_ | apply z02)))
   all_goals try (exfalso; omega)
   all_goals exact z07 Tryz.func46 _ (z0a rfl rfl) ⟨rfl, rfl⟩
 rw [if_neg c2]
 by_cases c3 : lo = 0 ∧ hi = 1
 · obtain ⟨rfl, rfl⟩ := c3
   rw [if_pos ⟨rfl, rfl⟩]
   repeat' (first | (apply z0e; (refine z13 rfl (by decide) ?_)) | (apply z0f; (first | refine z0z ?_ | apply z0c | refine z2e rfl rfl (by decide) ?_)) | (apply z0d; (first | apply z0h | apply z01 | refine z0o rfl ?_ | refine z0g rfl ?_ | apply z02)))
   all_goals try (exfalso; omega)
   all_goals exact z07 Tryz.func46 _ (z0a rfl rfl) ⟨rfl, rfl⟩
 rw [if_neg c3]
 by_cases c4 : hi = -1
 · subst c4
   rw [if_pos rfl, show txE ([123] ++ dgs lo ++ [44, 125]) = ((⟨#[123]⟩ : ByteArray) ++ txE (dgs lo)) ++ ⟨#[44, 125]⟩ by rw [z1q, z1q]; rfl]
   repeat' (first | (apply z0e; (first | refine z13 rfl (by decide) ?_ | (apply z0l; (refine zfk (first := []) (cap := []) (ps := [I .i64 lo]) hd1 rfl rfl (by decide) ?_)) | refine z00 (z29 (by (try simp only [sa]); omega)) rfl rfl (by decide) ?_)) | (apply z0f; (first | refine z0z ?_ | apply z0c | refine z2e rfl rfl (by decide) ?_ | refine z0u rfl rfl (fun _ => ?_) (fun _ => ?_))) | (apply z0d; (first | apply z0h | apply z01 | refine z0o rfl ?_ | refine z0g rfl ?_ | apply z02)))
   all_goals try (exfalso; omega)
   all_goals exact z07 Tryz.func46 _ (z0a rfl rfl) ⟨rfl, rfl⟩
 rw [if_neg c4]
 by_cases c5 : lo = hi
 · rw [if_pos c5, show txE ([123] ++ dgs lo ++ [125]) = ((⟨#[123]⟩ : ByteArray) ++ txE (dgs lo)) ++ ⟨#[125]⟩ by rw [z1q, z1q]; rfl]
   repeat' (first | (apply z0e; (first | refine z13 rfl (by decide) ?_ | (apply z0l; (refine zfk (first := []) (cap := []) (ps := [I .i64 lo]) hd1 rfl rfl (by decide) ?_)) | refine z00 (z29 (by (try simp only [sa]); omega)) rfl rfl (by decide) ?_)) | (apply z0f; (first | refine z0z ?_ | apply z0c | refine z2e rfl rfl (by decide) ?_ | refine z0u rfl rfl (fun _ => ?_) (fun _ => ?_))) | (apply z0d; (first | apply z0h | apply z01 | refine z0g rfl ?_ | apply z06 | apply z02 | apply z04 | refine z1o rfl (fun _ => ?_) (fun _ => ?_))))
   all_goals try (exfalso; omega)
   all_goals exact z07 Tryz.func46 _ (z0a rfl rfl) ⟨rfl, rfl⟩
 · have hd2 := zhc hi (by omega) (by omega)
   rw [if_neg c5, show txE ([123] ++ dgs lo ++ [44] ++ dgs hi ++ [125]) = ((((⟨#[123]⟩ : ByteArray) ++ txE (dgs lo)) ++ ⟨#[44]⟩) ++ txE (dgs hi)) ++ ⟨#[125]⟩ by rw [z1q, z1q, z1q, z1q]; rfl]
   repeat' (first | (apply z0e; (first | refine z13 rfl (by decide) ?_ | (apply z0l; (first | refine zfk (first := []) (cap := []) (ps := [I .i64 hi]) hd2 rfl rfl (by decide) ?_ | refine zfk (first := []) (cap := []) (ps := [I .i64 lo]) hd1 rfl rfl (by decide) ?_)) | refine z00 (z29 (by (try simp only [sa]); omega)) rfl rfl (by decide) ?_)) | (apply z0f; (first | refine z0z ?_ | apply z0c | refine z2e rfl rfl (by decide) ?_ | refine z0u rfl rfl (fun _ => ?_) (fun _ => ?_))) | (apply z0d; (first | apply z0h | apply z01 | refine z0g rfl ?_ | apply z06 | apply z02 | apply z04 | refine z1o rfl (fun _ => ?_) (fun _ => ?_))))
   all_goals try (exfalso; omega)
   all_goals exact z07 Tryz.func46 _ (z0a rfl rfl) ⟨rfl, rfl⟩
end Go.Proofs.YtjmbjgecfpggdaaGreatDoor
