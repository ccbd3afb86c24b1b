/- A part of the proof: G39. -/
import Derived.Test.YtjmbjgecfpggdaaGreatDoorRz
import Derived.Test.YtjmbjgecfpggdaaGreatDoorRc
set_option linter.all false
set_option linter.unusedVariables false
set_option linter.unusedSimpArgs false
namespace Go.Proofs.YtjmbjgecfpggdaaGreatDoor
open Go.Ab Go.Rx
set_option maxHeartbeats 20000000
set_option maxRecDepth 100000
attribute [local irreducible] Run Ops Op1 z2q Val Tr z1p z2j NF Rel z5b z5c z84
abbrev Uq := Int × Int × Int × Bool
abbrev uqc (u : Uq) : List D := [zn0 u.1, z48 u.2.1, z48 u.2.2.1, zrg u.2.2.2]
def uQ : Nat → List U → List Uq
 | _, [] => []
 | i, u :: l => (u.r, (i : Int), (u.n : Int), false) :: uQ (i + u.n) l
def okf (u : Uq) : Uq := (u.1, u.2.1, u.2.2.1, !decide (u.1 = 65533) || decide (u.2.2.1 = 3))
theorem zlw : ∀ (l : List U) (i : Nat), (uQ i l).length = l.length
 | [], i => rfl
 | u :: l, i => by rw [uQ, List.length_cons, List.length_cons, zlw l]
def inv1 (s : ByteArray) (q : Nat) (l : List Uq) : Prop := (l = [] ∧ q = 0) ∨ (∃ P r a, l = P ++ [(r, a, 0, false)] ∧ 0 ≤ a ∧ a ≤ (q : Int) ∧ P.length < q ∧ P ++ (r, a, (q : Int) - a, false) :: uQ q (rst s q) = uQ 0 (rst s 0))
theorem zqm (s : ByteArray) (hs : s.size ≤ 1000000) : z1p Tryz.prog 17 [S s] (.d (.slice (((uQ 0 (rst s 0)).map okf).map uqc))) := by
 refine z2e fun H => ?_
 refine z1c Tryz.func17 (by kernel_rfl) rfl (by simp) ?_
 dsimp only [Tryz.f17]
 repeat' (first | (apply z0e; (first | refine z11 rfl (by decide) ?_ | refine zab rfl rfl rfl (by decide) ?_)) | (apply z0b; (first | refine z10 ?_ | apply z0d)) | (apply z0c; (first | apply z0f | apply z01 | apply z03)))
 all_goals try (exfalso; omega)
 refine z3e 3 1000 49 4 rfl rfl rfl ?_
 refine z1x ?_
 refine z0s (z2u (fun q : Nat × List Uq => ⟨81, [(0, S s), (3, .ref (0, 1000)), (8, .ptr (0, 8) 0)], [(8, .siter s q.1), (1000, .row 49 4 (q.2.map uqc))], H⟩) (fun q => q.1 ≤ s.size ∧ inv1 s q.1 q.2) (fun q => s.size - q.1) ?_ (0, []) ⟨Nat.zero_le _, .inl ⟨rfl, rfl⟩⟩) rfl rfl
 rintro ⟨q, l⟩ ⟨i1, i2⟩ ih
 simp only at i1 i2 ih ⊢
 by_cases hlt : q < s.size
 · have hd := z4b hlt
   have hw := z7e s q hlt
   have hdh := zcz s q
   rcases i2 with ⟨rfl, rfl⟩ | ⟨P, r, a, rfl, a0, a1, hpl, heq⟩
   · have ih' := ih (0 + (Utf8.decode s 0).2, ([((((Utf8.decode s 0).1 : Nat) : Int), ((0 : Nat) : Int), (0 : Int), false)] : List Uq)) ⟨by simp only; omega, .inr ⟨[], _, _, rfl, by simp, by simp only; omega, by simp only [List.length_nil]; omega, by
      simp only
      rw [hd, uQ, List.nil_append]
      congr 2
      simp⟩⟩ (by simp only; omega)
     repeat' (first | (apply z0e; (first | refine z11 rfl (by decide) ?_ | (apply z1e; (first | refine z2d (g := uqc) rfl rfl (((((Utf8.decode s 0).1 : Nat) : Int), ((0 : Nat) : Int), (0 : Int), false) : Uq) rfl rfl rfl rfl rfl rfl rfl (by decide) (by simp) ?_ | refine z00 (z8a rfl) rfl rfl (by decide) ?_)) | (apply z0y; (refine z0x rfl rfl rfl rfl rfl rfl rfl (by decide) ?_)) | (apply z27; (refine z29 rfl rfl rfl rfl rfl rfl rfl rfl (by decide) ?_)) | refine z3l hlt rfl rfl (by decide) ?_)) | (apply z0b; (first | refine z10 ?_ | apply z0d)) | (apply z0c; (first | apply z0f | apply z01 | refine z0r rfl ?_ | refine z0h rfl ?_ | apply z09 | apply z03 | apply z08)))
     all_goals try (exfalso; simp at *; done)
     all_goals refine z38 36 1000 rfl rfl ?_
     all_goals exact z0s ih' rfl rfl
   · have hix : (P ++ [(r, a, (0 : Int), false)])[((((((P ++ [(r, a, (0 : Int), false)]).map uqc).length : Nat) : Int) - 1)).toNat]? = some ((r, a, 0, false) : Uq) := by
      rw [List.length_map, List.length_append, List.length_singleton, show (((P.length + 1 : Nat) : Int) - 1).toNat = P.length by omega]; simp
     have hse : (P ++ [(r, a, (0 : Int), false)]).set ((((((P ++ [(r, a, (0 : Int), false)]).map uqc).length : Nat) : Int) - 1)).toNat ((r, a, (q : Int) - a, false) : Uq) = P ++ [(r, a, (q : Int) - a, false)] := by
      rw [List.length_map, List.length_append, List.length_singleton, show (((P.length + 1 : Nat) : Int) - 1).toNat = P.length by omega]; simp
     have hln : ((P ++ [(r, a, (0 : Int), false)]).map uqc).length = P.length + 1 := by simp
     have hln2 : (P ++ [(r, a, (q : Int) - a, false)]).length = P.length + 1 := by simp
     have ih' := ih (q + (Utf8.decode s q).2, (P ++ [(r, a, (q : Int) - a, false)]) ++ ([((((Utf8.decode s q).1 : Nat) : Int), ((q : Nat) : Int), (0 : Int), false)] : List Uq)) ⟨by simp only; omega, .inr ⟨P ++ [(r, a, (q : Int) - a, false)], _, _, rfl, by simp, by simp only; omega, by simp only [List.length_append, List.length_singleton]; omega, by
      simp only
      rw [hd, uQ] at heq
      rw [← heq, List.append_assoc, List.singleton_append, show (((q + (Utf8.decode s q).2 : Nat) : Int) - (q : Nat)) = ((Utf8.decode s q).2 : Nat) by omega]⟩⟩ (by simp only; omega)
     repeat' (first | (apply z0e; (first | refine z11 rfl (by decide) ?_ | (apply z0a; (refine z00 (z4k (u := z48 a) hix rfl rfl rfl) rfl rfl (by decide) ?_)) | (apply z07; (refine z00 (z5x rfl rfl) rfl rfl (by decide) ?_)) | (apply z1f; (refine z00 (z5l rfl (by omega) (by omega) rfl) rfl rfl (by decide) ?_)) | (apply z13; (refine z00 (z42 (z1o (by omega) (by omega))) rfl rfl (by decide) ?_)) | (apply z1e; (first | refine z2d (g := uqc) rfl rfl (((((Utf8.decode s q).1 : Nat) : Int), ((q : Nat) : Int), (0 : Int), false) : Uq) rfl rfl rfl rfl rfl rfl rfl (by decide) (by omega) ?_ | refine z00 (z8a rfl) rfl rfl (by decide) ?_)) | (apply z05; (refine z6h ((r, a, (q : Int) - a, false) : Uq) rfl rfl rfl rfl hix rfl rfl rfl hse ?_)) | (apply z0y; (refine z0x rfl rfl rfl rfl rfl rfl rfl (by decide) ?_)) | (apply z27; (refine z29 rfl rfl rfl rfl rfl rfl rfl rfl (by decide) ?_)) | refine z3l hlt rfl rfl (by decide) ?_)) | (apply z0b; (first | refine z10 ?_ | apply z0d)) | (apply z0c; (first | apply z0f | apply z01 | refine z0r rfl ?_ | apply z09 | apply z03 | apply z08 | refine z1i rfl (fun _ => ?_) (fun _ => ?_))))
     all_goals try (exfalso; omega)
     all_goals refine z38 36 1000 rfl rfl ?_
     all_goals exact z0s ih' rfl rfl
 · obtain rfl : q = s.size := by omega
   have hd := z34 (s := s) (i := s.size) (Nat.le_refl _)
   obtain ⟨L, hL⟩ : ∃ L, uQ 0 (rst s 0) = L := ⟨_, rfl⟩
   have hLl : L.length ≤ s.size := by
    rw [← hL, zlw]
    have := z6t s s.size 0 (by omega)
    omega
   rw [hL]
   rcases i2 with ⟨rfl, h0⟩ | ⟨P, r, a, rfl, a0, a1, hpl, heq⟩
   · have hLn : L = [] := by rw [← hL, z34 (by omega)]; rfl
     repeat' (first | (apply z0e; (first | refine z11 rfl (by decide) ?_ | (apply z1e; (refine z00 (z8a rfl) rfl rfl (by decide) ?_)) | refine z3m hlt rfl rfl (by decide) ?_)) | (apply z0b; (first | refine z10 ?_ | apply z0d)) | (apply z0c; (first | apply z0f | apply z01 | refine z0h rfl ?_ | apply z09 | apply z03 | refine z0p rfl ?_)))
     all_goals try (exfalso; simp at *; done)
     refine z1x ?_
     refine z0s (z2u (fun k : Nat => ⟨81, [(3, .ref (0, 1000)), (57, I .i64 L.length), (58, I .i64 (k : Nat))], [(1000, .row 49 4 (((L.take k).map okf ++ L.drop k).map uqc))], H⟩) (fun k => k ≤ L.length) (fun k => L.length - k) ?_ 0 (Nat.zero_le _)) (by rw [hLn]; rfl) (by rw [hLn]; rfl)
     intro k k1 ihk
     by_cases hk : k < L.length
     · obtain ⟨u, hu⟩ : ∃ u, L[k]? = some u := ⟨_, List.getElem?_eq_getElem hk⟩
       have hT : ((L.take k).map okf).length = k := by rw [List.length_map, List.length_take]; omega
       have hall : ((L.take k).map okf ++ L.drop k).length = L.length := by rw [List.length_append, hT, List.length_drop]; omega
       have hix : ((L.take k).map okf ++ L.drop k)[((k : Nat) : Int).toNat]? = some u := by
        rw [Int.toNat_natCast, List.getElem?_append_right (by omega), hT, Nat.sub_self, List.getElem?_drop, Nat.add_zero]; exact hu
       have hse : ((L.take k).map okf ++ L.drop k).set ((k : Nat) : Int).toNat (okf u) = (L.take (k + 1)).map okf ++ L.drop (k + 1) := by
        rw [Int.toNat_natCast, List.set_append_right _ _ (by omega), hT, Nat.sub_self, drop_cons hu, List.set_cons_zero, z6g hu, List.map_append, List.append_assoc]; rfl
       have hmap : (((L.take k).map okf ++ L.drop k).map uqc).length = L.length := by rw [List.length_map]; exact hall
       have ihk' := ihk (k + 1) (by omega) (by omega)
       obtain ⟨u1, u2, u3, u4⟩ := u
       by_cases hbad : u1 = 65533
       · have hok : okf (u1, u2, u3, u4) = (u1, u2, u3, decide (u3 = 3)) := by simp [okf, hbad]
         rw [hok] at hse
         repeat' (first | (apply z0e; (first | refine z11 rfl (by decide) ?_ | (apply z0a; (first | refine z00 (z4k (u := zn0 u1) hix rfl rfl rfl) rfl rfl (by decide) ?_ | refine z00 (z4k (u := z48 u3) hix rfl rfl rfl) rfl rfl (by decide) ?_)) | (apply z07; (refine z00 (z5x rfl rfl) rfl rfl (by decide) ?_)) | (apply z1f; (refine z00 (z5l rfl (by omega) (by omega) rfl) rfl rfl (by decide) ?_)) | (apply z13; (refine z00 (z19 (z1o (by omega) (by omega))) rfl rfl (by decide) ?_)) | (apply z05; (refine z6h ((u1, u2, u3, decide (u3 = 3)) : Uq) rfl rfl rfl rfl hix rfl rfl rfl hse ?_)))) | (apply z0b; (first | refine z10 ?_ | apply z0d | refine z2f rfl rfl (by decide) ?_ | refine z2s rfl rfl (fun _ => ?_) (fun _ => ?_))) | (apply z0c; (first | apply z0f | apply z01 | apply z09 | apply z03 | apply z08 | refine z1i rfl (fun _ => ?_) (fun _ => ?_) | refine z0p rfl ?_)))
         all_goals try (exfalso; omega)
         all_goals exact z0s ihk' rfl rfl
       · have hok : okf (u1, u2, u3, u4) = (u1, u2, u3, true) := by simp [okf, hbad]
         rw [hok] at hse
         repeat' (first | (apply z0e; (first | refine z11 rfl (by decide) ?_ | (apply z0a; (first | refine z00 (z4k (u := zn0 u1) hix rfl rfl rfl) rfl rfl (by decide) ?_ | refine z00 (z4k (u := z48 u3) hix rfl rfl rfl) rfl rfl (by decide) ?_)) | (apply z07; (refine z00 (z5x rfl rfl) rfl rfl (by decide) ?_)) | (apply z1f; (refine z00 (z5l rfl (by omega) (by omega) rfl) rfl rfl (by decide) ?_)) | (apply z13; (refine z00 (z19 (z1o (by omega) (by omega))) rfl rfl (by decide) ?_)) | (apply z05; (refine z6h ((u1, u2, u3, true) : Uq) rfl rfl rfl rfl hix rfl rfl rfl hse ?_)))) | (apply z0b; (first | refine z10 ?_ | apply z0d | refine z2f rfl rfl (by decide) ?_ | refine z2s rfl rfl (fun _ => ?_) (fun _ => ?_))) | (apply z0c; (first | apply z0f | apply z01 | apply z09 | apply z03 | apply z08 | refine z1i rfl (fun _ => ?_) (fun _ => ?_) | refine z0p rfl ?_)))
         all_goals try (exfalso; omega)
         all_goals exact z0s ihk' rfl rfl
     · obtain rfl : k = L.length := by omega
       rw [List.take_length, List.drop_length, List.append_nil]
       repeat' (first | (apply z0e; (refine z11 rfl (by decide) ?_)) | (apply z0b; (first | refine z10 ?_ | apply z0d)) | (apply z0c; (first | apply z0f | apply z01 | apply z09 | apply z03 | refine z1i rfl (fun _ => ?_) (fun _ => ?_) | refine z0p rfl ?_)))
       all_goals try (exfalso; omega)
       refine z1t 1000 rfl ?_
       exact z0g Tryz.func17 _ (z0j rfl rfl) ⟨rfl, rfl⟩
   · rw [hd, uQ, hL] at heq
     have hix : (P ++ [(r, a, (0 : Int), false)])[((((((P ++ [(r, a, (0 : Int), false)]).map uqc).length : Nat) : Int) - 1)).toNat]? = some ((r, a, 0, false) : Uq) := by
      rw [List.length_map, List.length_append, List.length_singleton, show (((P.length + 1 : Nat) : Int) - 1).toNat = P.length by omega]; simp
     have hse : (P ++ [(r, a, (0 : Int), false)]).set ((((((P ++ [(r, a, (0 : Int), false)]).map uqc).length : Nat) : Int) - 1)).toNat ((r, a, (s.size : Int) - a, false) : Uq) = P ++ [(r, a, (s.size : Int) - a, false)] := by
      rw [List.length_map, List.length_append, List.length_singleton, show (((P.length + 1 : Nat) : Int) - 1).toNat = P.length by omega]; simp
     rw [heq] at hse
     have hln : ((P ++ [(r, a, (0 : Int), false)]).map uqc).length = P.length + 1 := by simp
     repeat' (first | (apply z0e; (first | refine z11 rfl (by decide) ?_ | (apply z0a; (refine z00 (z4k (u := z48 a) hix rfl rfl rfl) rfl rfl (by decide) ?_)) | (apply z07; (refine z00 (z5x rfl rfl) rfl rfl (by decide) ?_)) | (apply z1f; (refine z00 (z5l rfl (by omega) (by omega) rfl) rfl rfl (by decide) ?_)) | (apply z13; (refine z00 (z42 (z1o (by omega) (by omega))) rfl rfl (by decide) ?_)) | (apply z1e; (first | refine z00 (z8a rfl) rfl rfl (by decide) ?_ | refine z00 (z3v rfl) rfl rfl (by decide) ?_)) | (apply z05; (refine z6h ((r, a, (s.size : Int) - a, false) : Uq) rfl rfl rfl rfl hix rfl rfl rfl hse ?_)) | refine z3m hlt rfl rfl (by decide) ?_)) | (apply z0b; (first | refine z10 ?_ | apply z0d)) | (apply z0c; (first | apply z0f | apply z01 | refine z0h rfl ?_ | apply z09 | apply z03 | refine z1i rfl (fun _ => ?_) (fun _ => ?_) | refine z0p rfl ?_)))
     all_goals try (exfalso; omega)
     refine z1x ?_
     refine z0s (z2u (fun k : Nat => ⟨81, [(3, .ref (0, 1000)), (57, I .i64 L.length), (58, I .i64 (k : Nat))], [(1000, .row 49 4 (((L.take k).map okf ++ L.drop k).map uqc))], H⟩) (fun k => k ≤ L.length) (fun k => L.length - k) ?_ 0 (Nat.zero_le _)) (by rw [show (L.length : Int) = (((L.map uqc).length : Nat) : Int) by rw [List.length_map]]; rfl) rfl
     intro k k1 ihk
     by_cases hk : k < L.length
     · obtain ⟨u, hu⟩ : ∃ u, L[k]? = some u := ⟨_, List.getElem?_eq_getElem hk⟩
       have hT : ((L.take k).map okf).length = k := by rw [List.length_map, List.length_take]; omega
       have hall : ((L.take k).map okf ++ L.drop k).length = L.length := by rw [List.length_append, hT, List.length_drop]; omega
       have hix : ((L.take k).map okf ++ L.drop k)[((k : Nat) : Int).toNat]? = some u := by
        rw [Int.toNat_natCast, List.getElem?_append_right (by omega), hT, Nat.sub_self, List.getElem?_drop, Nat.add_zero]; exact hu
       have hse : ((L.take k).map okf ++ L.drop k).set ((k : Nat) : Int).toNat (okf u) = (L.take (k + 1)).map okf ++ L.drop (k + 1) := by
        rw [Int.toNat_natCast, List.set_append_right _ _ (by omega), hT, Nat.sub_self, drop_cons hu, List.set_cons_zero, z6g hu, List.map_append, List.append_assoc]; rfl
       have hmap : (((L.take k).map okf ++ L.drop k).map uqc).length = L.length := by rw [List.length_map]; exact hall
       have ihk' := ihk (k + 1) (by omega) (by omega)
       obtain ⟨u1, u2, u3, u4⟩ := u
       by_cases hbad : u1 = 65533
       · have hok : okf (u1, u2, u3, u4) = (u1, u2, u3, decide (u3 = 3)) := by simp [okf, hbad]
         rw [hok] at hse
         repeat' (first | (apply z0e; (first | refine z11 rfl (by decide) ?_ | (apply z0a; (first | refine z00 (z4k (u := zn0 u1) hix rfl rfl rfl) rfl rfl (by decide) ?_ | refine z00 (z4k (u := z48 u3) hix rfl rfl rfl) rfl rfl (by decide) ?_)) | (apply z07; (refine z00 (z5x rfl rfl) rfl rfl (by decide) ?_)) | (apply z1f; (refine z00 (z5l rfl (by omega) (by omega) rfl) rfl rfl (by decide) ?_)) | (apply z13; (refine z00 (z19 (z1o (by omega) (by omega))) rfl rfl (by decide) ?_)) | (apply z05; (refine z6h ((u1, u2, u3, decide (u3 = 3)) : Uq) rfl rfl rfl rfl hix rfl rfl rfl hse ?_)))) | (apply z0b; (first | refine z10 ?_ | apply z0d | refine z2f rfl rfl (by decide) ?_ | refine z2s rfl rfl (fun _ => ?_) (fun _ => ?_))) | (apply z0c; (first | apply z0f | apply z01 | apply z09 | apply z03 | apply z08 | refine z1i rfl (fun _ => ?_) (fun _ => ?_) | refine z0p rfl ?_)))
         all_goals try (exfalso; omega)
         all_goals exact z0s ihk' rfl rfl
       · have hok : okf (u1, u2, u3, u4) = (u1, u2, u3, true) := by simp [okf, hbad]
         rw [hok] at hse
         repeat' (first | (apply z0e; (first | refine z11 rfl (by decide) ?_ | (apply z0a; (first | refine z00 (z4k (u := zn0 u1) hix rfl rfl rfl) rfl rfl (by decide) ?_ | refine z00 (z4k (u := z48 u3) hix rfl rfl rfl) rfl rfl (by decide) ?_)) | (apply z07; (refine z00 (z5x rfl rfl) rfl rfl (by decide) ?_)) | (apply z1f; (refine z00 (z5l rfl (by omega) (by omega) rfl) rfl rfl (by decide) ?_)) | (apply z13; (refine z00 (z19 (z1o (by omega) (by omega))) rfl rfl (by decide) ?_)) | (apply z05; (refine z6h ((u1, u2, u3, true) : Uq) rfl rfl rfl rfl hix rfl rfl rfl hse ?_)))) | (apply z0b; (first | refine z10 ?_ | apply z0d | refine z2f rfl rfl (by decide) ?_ | refine z2s rfl rfl (fun _ => ?_) (fun _ => ?_))) | (apply z0c; (first | apply z0f | apply z01 | apply z09 | apply z03 | apply z08 | refine z1i rfl (fun _ => ?_) (fun _ => ?_) | refine z0p rfl ?_)))
         all_goals try (exfalso; omega)
         all_goals exact z0s ihk' rfl rfl
     · obtain rfl : k = L.length := by omega
       rw [List.take_length, List.drop_length, List.append_nil]
       repeat' (first | (apply z0e; (refine z11 rfl (by decide) ?_)) | (apply z0b; (first | refine z10 ?_ | apply z0d)) | (apply z0c; (first | apply z0f | apply z01 | apply z09 | apply z03 | refine z1i rfl (fun _ => ?_) (fun _ => ?_) | refine z0p rfl ?_)))
       all_goals try (exfalso; omega)
       refine z1t 1000 rfl ?_
       exact z0g Tryz.func17 _ (z0j rfl rfl) ⟨rfl, rfl⟩
end Go.Proofs.YtjmbjgecfpggdaaGreatDoor
