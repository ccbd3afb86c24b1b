/- A part of the proof: G39, G29. -/
import Derived.Test.YthdfkabdoidjfaaGreatDoorQz
import Derived.Test.YthdfkabdoidjfaaGreatDoorQc
import Derived.Test.YthdfkabdoidjfaaGreatDoorQx
import Derived.Test.YthdfkabdoidjfaaGreatDoorQq
import Derived.Test.YthdfkabdoidjfaaGreatDoorQr
import Derived.Test.YthdfkabdoidjfaaGreatDoorQp
set_option linter.all false
set_option linter.unusedVariables false
set_option linter.unusedSimpArgs false
namespace Go.Proofs.YthdfkabdoidjfaaGreatDoor
open Go.Ab Go.Rx
set_option maxHeartbeats 20000000
set_option maxRecDepth 100000
attribute [local irreducible] Run Ops Op1 z23 Val Tr z13 z22 NF Rel z4e z4d zf2
abbrev Uq := Int × Int × Int × Bool
abbrev uqc (u : Uq) : List D := [z56 u.1, z2j u.2.1, z2j u.2.2.1, z7w u.2.2.2]
def uQ : Nat → List U → List Uq
 | _, [] => []
 | i, u :: l => (u.r, (i : Int), (u.n : Int), false) :: uQ (i + u.n) l
def okf (u : Uq) : Uq := (u.1, u.2.1, u.2.2.1, !decide (u.1 = 65533) || decide (u.2.2.1 = 3))
theorem zpw : ∀ (l : List U) (i : Nat), ((uQ i l).map okf).all (fun u => u.2.2.2) = l.all zva
 | [], i => rfl
 | u :: l, i => by
  rw [uQ, List.map_cons, List.all_cons, List.all_cons, zpw l]
  congr 1
  simp only [okf, zva]
  congr 1
  rw [decide_eq_decide]; omega
theorem zmu : ∀ (l : List U) (i : Nat), (uQ i l).length = l.length
 | [], i => rfl
 | u :: l, i => by rw [uQ, List.length_cons, List.length_cons, zmu l]
def inv1 (s : ByteArray) (q : Nat) (l : List Uq) : Prop := (l = [] ∧ q = 0) ∨ (∃ P r a, l = P ++ [(r, a, 0, false)] ∧ 0 ≤ a ∧ a ≤ (q : Int) ∧ P.length < q ∧ P ++ (r, a, (q : Int) - a, false) :: uQ q (rst s q) = uQ 0 (rst s 0))
theorem zr6 (s : ByteArray) (hs : s.size ≤ 1000000) : z13 Tryz.prog 77 [S s] (.d (.slice (((uQ 0 (rst s 0)).map okf).map uqc))) := by
 refine z1k fun H => ?_
 refine z0k Tryz.func77 (by kernel_rfl) rfl (by simp) ?_
 dsimp only [Tryz.f77]
 repeat' (first | (apply z0a; (first | refine z0n ?_| refine zb0 rfl rfl rfl (by decide) ?_)) | (apply z09; (first | refine z0m ?_ | apply z07)) | (apply z08; (first | apply z0b | apply z00 | apply z01)))
 all_goals try (exfalso; omega)
 refine z2b 3 1000 117 4 rfl rfl rfl ?_
 refine z1f ?_
 refine z0f (z2f (fun q : Nat × List Uq => ⟨81, [(0, S s), (3, .ref (0, 1000)), (8, .ptr (0, 8) 0)], [(8, .siter s q.1), (1000, .row 117 4 (q.2.map uqc))], H⟩) (fun q => q.1 ≤ s.size ∧ inv1 s q.1 q.2) (fun q => s.size - q.1) ?_ (0, []) ⟨Nat.zero_le _, .inl ⟨rfl, rfl⟩⟩) rfl rfl
 rintro ⟨q, l⟩ ⟨i1, i2⟩ ih
 simp only at i1 i2 ih ⊢
 by_cases hlt : q < s.size
 · have hd := zbe hlt
   have hw := zcs s q hlt
   have hdh := zlh s q
   rcases i2 with ⟨rfl, rfl⟩ | ⟨P, r, a, rfl, a0, a1, hpl, heq⟩
   · have ih' := ih (0 + (Utf8.decode s 0).2, ([((((Utf8.decode s 0).1 : Nat) : Int), ((0 : Nat) : Int), (0 : Int), false)] : List Uq)) ⟨by simp only; omega, .inr ⟨[], _, _, rfl, by simp, by simp only; omega, by simp only [List.length_nil]; omega, by
      simp only
      rw [hd, uQ, List.nil_append]
      congr 2
      simp⟩⟩ (by simp only; omega)
     repeat' (first | (apply z0a; (first | refine z0n ?_| (apply z0x; (first | refine z4m (g := uqc) rfl rfl (((((Utf8.decode s 0).1 : Nat) : Int), ((0 : Nat) : Int), (0 : Int), false) : Uq) rfl rfl rfl rfl rfl rfl rfl (by decide) (by simp) ?_ | refine z02 (z6e rfl) rfl rfl ?_)) | (apply z0z; (refine z3q ?_)) | (apply z1z; (refine z2d rfl ?_)) | refine z30 hlt rfl rfl (by decide) ?_)) | (apply z09; (first | refine z0m ?_ | apply z07)) | (apply z08; (first | apply z0b | apply z00 | refine z1g ?_| refine z14 ?_| apply z04 | apply z01 | apply z03)))
     all_goals try (exfalso; simp at *; done)
     all_goals refine z1y 36 1000 ?_
     all_goals exact z0f ih' rfl rfl
   · have hix : (P ++ [(r, a, (0 : Int), false)])[((((((P ++ [(r, a, (0 : Int), false)]).map uqc).length : Nat) : Int) - 1)).toNat]? = some ((r, a, 0, false) : Uq) := by
      rw [List.length_map, List.length_append, List.length_singleton, show (((P.length + 1 : Nat) : Int) - 1).toNat = P.length by omega]; simp
     have hse : (P ++ [(r, a, (0 : Int), false)]).set ((((((P ++ [(r, a, (0 : Int), false)]).map uqc).length : Nat) : Int) - 1)).toNat ((r, a, (q : Int) - a, false) : Uq) = P ++ [(r, a, (q : Int) - a, false)] := by
      rw [List.length_map, List.length_append, List.length_singleton, show (((P.length + 1 : Nat) : Int) - 1).toNat = P.length by omega]; simp
     have hln : ((P ++ [(r, a, (0 : Int), false)]).map uqc).length = P.length + 1 := by simp
     have hln2 : (P ++ [(r, a, (q : Int) - a, false)]).length = P.length + 1 := by simp
     have ih' := ih (q + (Utf8.decode s q).2, (P ++ [(r, a, (q : Int) - a, false)]) ++ ([((((Utf8.decode s q).1 : Nat) : Int), ((q : Nat) : Int), (0 : Int), false)] : List Uq)) ⟨by simp only; omega, .inr ⟨P ++ [(r, a, (q : Int) - a, false)], _, _, rfl, by simp, by simp only; omega, by simp only [List.length_append, List.length_singleton]; omega, by
      simp only
      rw [hd, uQ] at heq
      rw [← heq, List.append_assoc, List.singleton_append, show (((q + (Utf8.decode s q).2 : Nat) : Int) - (q : Nat)) = ((Utf8.decode s q).2 : Nat) by omega]⟩⟩ (by simp only; omega)
     repeat' (first | (apply z0a; (first | refine z0n ?_| (apply z06; (refine z02 (z1v (u := z2j a) hix) rfl rfl ?_)) | (apply z0d; (refine z02 z36 rfl rfl ?_)) | (apply z0e; (refine z02 (z2t rfl) rfl rfl ?_)) | (apply z0t; (refine z02 (z1w z1d) rfl rfl ?_)) | (apply z0x; (first | refine z38 (g := uqc) (((((Utf8.decode s q).1 : Nat) : Int), ((q : Nat) : Int), (0 : Int), false) : Uq) rfl ?_| refine z02 (z6e rfl) rfl rfl ?_)) | (apply z0c; (refine z3x ((r, a, (q : Int) - a, false) : Uq) hix hse ?_)) | (apply z0z; (refine z3q ?_)) | (apply z1z; (refine z2d rfl ?_)) | refine z30 hlt rfl rfl (by decide) ?_)) | (apply z09; (first | refine z0m ?_ | apply z07)) | (apply z08; (first | apply z0b | apply z00 | refine z1g ?_| apply z04 | apply z01 | apply z03 | refine z0h (fun _ => ?_) (fun _ => ?_))))
     all_goals try (exfalso; omega)
     all_goals refine z1y 36 1000 ?_
     all_goals exact z0f ih' rfl rfl
 · obtain rfl : q = s.size := by omega
   have hd := z7k (s := s) (i := s.size) (Nat.le_refl _)
   obtain ⟨L, hL⟩ : ∃ L, uQ 0 (rst s 0) = L := ⟨_, rfl⟩
   have hLl : L.length ≤ s.size := by
    rw [← hL, zmu]
    have := zgj s s.size 0 (by omega)
    omega
   rw [hL]
   rcases i2 with ⟨rfl, h0⟩ | ⟨P, r, a, rfl, a0, a1, hpl, heq⟩
   · have hLn : L = [] := by rw [← hL, z7k (by omega)]; rfl
     repeat' (first | (apply z0a; (first | refine z0n ?_| (apply z0x; (refine z02 (z6e rfl) rfl rfl ?_)) | refine z3o hlt rfl rfl (by decide) ?_)) | (apply z09; (first | refine z0m ?_ | apply z07)) | (apply z08; (first | apply z0b | apply z00 | refine z14 ?_| apply z04 | apply z01 | refine z0l ?_)))
     all_goals try (exfalso; simp at *; done)
     refine z1f ?_
     refine z0f (z2f (fun k : Nat => ⟨81, [(3, .ref (0, 1000)), (57, I .i64 L.length), (58, I .i64 (k : Nat))], [(1000, .row 117 4 (((L.take k).map okf ++ L.drop k).map uqc))], H⟩) (fun k => k ≤ L.length) (fun k => L.length - k) ?_ 0 (Nat.zero_le _)) (by rw [hLn]; rfl) (by rw [hLn]; rfl)
     intro k k1 ihk
     by_cases hk : k < L.length
     · obtain ⟨u, hu⟩ : ∃ u, L[k]? = some u := ⟨_, List.getElem?_eq_getElem hk⟩
       have hT : ((L.take k).map okf).length = k := by rw [List.length_map, List.length_take]; omega
       have hall : ((L.take k).map okf ++ L.drop k).length = L.length := by rw [List.length_append, hT, List.length_drop]; omega
       have hix : ((L.take k).map okf ++ L.drop k)[((k : Nat) : Int).toNat]? = some u := by
        rw [Int.toNat_natCast, List.getElem?_append_right (by omega), hT, Nat.sub_self, List.getElem?_drop, Nat.add_zero]; exact hu
       have hse : ((L.take k).map okf ++ L.drop k).set ((k : Nat) : Int).toNat (okf u) = (L.take (k + 1)).map okf ++ L.drop (k + 1) := by
        rw [Int.toNat_natCast, List.set_append_right _ _ (by omega), hT, Nat.sub_self, drop_cons hu, List.set_cons_zero, z4t hu, List.map_append, List.append_assoc]; rfl
       have hmap : (((L.take k).map okf ++ L.drop k).map uqc).length = L.length := by rw [List.length_map]; exact hall
       have ihk' := ihk (k + 1) (by omega) (by omega)
       obtain ⟨u1, u2, u3, u4⟩ := u
       by_cases hbad : u1 = 65533
       · have hok : okf (u1, u2, u3, u4) = (u1, u2, u3, decide (u3 = 3)) := by simp [okf, hbad]
         rw [hok] at hse
         repeat' (first | (apply z0a; (first | refine z0n ?_| (apply z06; (first | refine z02 (z1v (u := z56 u1) hix) rfl rfl ?_| refine z02 (z1v (u := z2j u3) hix) rfl rfl ?_)) | (apply z0d; (refine z02 z36 rfl rfl ?_)) | (apply z0e; (refine z02 (z2t rfl) rfl rfl ?_)) | (apply z0t; (refine z02 (z0r z1d) rfl rfl ?_)) | (apply z0c; (refine z3x ((u1, u2, u3, decide (u3 = 3)) : Uq) hix hse ?_)))) | (apply z09; (first | refine z0m ?_ | apply z07 | refine z1r ?_| refine z52 rfl rfl (fun _ => ?_) (fun _ => ?_))) | (apply z08; (first | apply z0b | apply z00 | apply z04 | apply z01 | apply z03 | refine z0h (fun _ => ?_) (fun _ => ?_)| refine z0l ?_)))
         all_goals try (exfalso; omega)
         all_goals exact z0f ihk' rfl rfl
       · have hok : okf (u1, u2, u3, u4) = (u1, u2, u3, true) := by simp [okf, hbad]
         rw [hok] at hse
         repeat' (first | (apply z0a; (first | refine z0n ?_| (apply z06; (first | refine z02 (z1v (u := z56 u1) hix) rfl rfl ?_| refine z02 (z1v (u := z2j u3) hix) rfl rfl ?_)) | (apply z0d; (refine z02 z36 rfl rfl ?_)) | (apply z0e; (refine z02 (z2t rfl) rfl rfl ?_)) | (apply z0t; (refine z02 (z0r z1d) rfl rfl ?_)) | (apply z0c; (refine z3x ((u1, u2, u3, true) : Uq) hix hse ?_)))) | (apply z09; (first | refine z0m ?_ | apply z07 | refine z1r ?_| refine z52 rfl rfl (fun _ => ?_) (fun _ => ?_))) | (apply z08; (first | apply z0b | apply z00 | apply z04 | apply z01 | apply z03 | refine z0h (fun _ => ?_) (fun _ => ?_)| refine z0l ?_)))
         all_goals try (exfalso; omega)
         all_goals exact z0f ihk' rfl rfl
     · obtain rfl : k = L.length := by omega
       rw [List.take_length, List.drop_length, List.append_nil]
       repeat' (first | (apply z0a; (refine z0n ?_)) | (apply z09; (first | refine z0m ?_ | apply z07)) | (apply z08; (first | apply z0b | apply z00 | apply z04 | apply z01 | refine z0h (fun _ => ?_) (fun _ => ?_)| refine z0l ?_)))
       all_goals try (exfalso; omega)
       refine z1l 1000 rfl ?_
       exact z0j Tryz.func77 _ z15 ⟨rfl, rfl⟩
   · rw [hd, uQ, hL] at heq
     have hix : (P ++ [(r, a, (0 : Int), false)])[((((((P ++ [(r, a, (0 : Int), false)]).map uqc).length : Nat) : Int) - 1)).toNat]? = some ((r, a, 0, false) : Uq) := by
      rw [List.length_map, List.length_append, List.length_singleton, show (((P.length + 1 : Nat) : Int) - 1).toNat = P.length by omega]; simp
     have hse : (P ++ [(r, a, (0 : Int), false)]).set ((((((P ++ [(r, a, (0 : Int), false)]).map uqc).length : Nat) : Int) - 1)).toNat ((r, a, (s.size : Int) - a, false) : Uq) = P ++ [(r, a, (s.size : Int) - a, false)] := by
      rw [List.length_map, List.length_append, List.length_singleton, show (((P.length + 1 : Nat) : Int) - 1).toNat = P.length by omega]; simp
     rw [heq] at hse
     have hln : ((P ++ [(r, a, (0 : Int), false)]).map uqc).length = P.length + 1 := by simp
     repeat' (first | (apply z0a; (first | refine z0n ?_| (apply z06; (refine z02 (z1v (u := z2j a) hix) rfl rfl ?_)) | (apply z0d; (refine z02 z36 rfl rfl ?_)) | (apply z0e; (refine z02 (z2t rfl) rfl rfl ?_)) | (apply z0t; (refine z02 (z1w z1d) rfl rfl ?_)) | (apply z0x; (first | refine z02 (z6e rfl) rfl rfl ?_| refine z02 (z6n rfl) rfl rfl ?_)) | (apply z0c; (refine z3x ((r, a, (s.size : Int) - a, false) : Uq) hix hse ?_)) | refine z3o hlt rfl rfl (by decide) ?_)) | (apply z09; (first | refine z0m ?_ | apply z07)) | (apply z08; (first | apply z0b | apply z00 | refine z14 ?_| apply z04 | apply z01 | refine z0h (fun _ => ?_) (fun _ => ?_)| refine z0l ?_)))
     all_goals try (exfalso; omega)
     refine z1f ?_
     refine z0f (z2f (fun k : Nat => ⟨81, [(3, .ref (0, 1000)), (57, I .i64 L.length), (58, I .i64 (k : Nat))], [(1000, .row 117 4 (((L.take k).map okf ++ L.drop k).map uqc))], H⟩) (fun k => k ≤ L.length) (fun k => L.length - k) ?_ 0 (Nat.zero_le _)) (by rw [show (L.length : Int) = (((L.map uqc).length : Nat) : Int) by rw [List.length_map]]; rfl) rfl
     intro k k1 ihk
     by_cases hk : k < L.length
     · obtain ⟨u, hu⟩ : ∃ u, L[k]? = some u := ⟨_, List.getElem?_eq_getElem hk⟩
       have hT : ((L.take k).map okf).length = k := by rw [List.length_map, List.length_take]; omega
       have hall : ((L.take k).map okf ++ L.drop k).length = L.length := by rw [List.length_append, hT, List.length_drop]; omega
       have hix : ((L.take k).map okf ++ L.drop k)[((k : Nat) : Int).toNat]? = some u := by
        rw [Int.toNat_natCast, List.getElem?_append_right (by omega), hT, Nat.sub_self, List.getElem?_drop, Nat.add_zero]; exact hu
       have hse : ((L.take k).map okf ++ L.drop k).set ((k : Nat) : Int).toNat (okf u) = (L.take (k + 1)).map okf ++ L.drop (k + 1) := by
        rw [Int.toNat_natCast, List.set_append_right _ _ (by omega), hT, Nat.sub_self, drop_cons hu, List.set_cons_zero, z4t hu, List.map_append, List.append_assoc]; rfl
       have hmap : (((L.take k).map okf ++ L.drop k).map uqc).length = L.length := by rw [List.length_map]; exact hall
       have ihk' := ihk (k + 1) (by omega) (by omega)
       obtain ⟨u1, u2, u3, u4⟩ := u
       by_cases hbad : u1 = 65533
       · have hok : okf (u1, u2, u3, u4) = (u1, u2, u3, decide (u3 = 3)) := by simp [okf, hbad]
         rw [hok] at hse
         repeat' (first | (apply z0a; (first | refine z0n ?_| (apply z06; (first | refine z02 (z1v (u := z56 u1) hix) rfl rfl ?_| refine z02 (z1v (u := z2j u3) hix) rfl rfl ?_)) | (apply z0d; (refine z02 z36 rfl rfl ?_)) | (apply z0e; (refine z02 (z2t rfl) rfl rfl ?_)) | (apply z0t; (refine z02 (z0r z1d) rfl rfl ?_)) | (apply z0c; (refine z3x ((u1, u2, u3, decide (u3 = 3)) : Uq) hix hse ?_)))) | (apply z09; (first | refine z0m ?_ | apply z07 | refine z1r ?_| refine z52 rfl rfl (fun _ => ?_) (fun _ => ?_))) | (apply z08; (first | apply z0b | apply z00 | apply z04 | apply z01 | apply z03 | refine z0h (fun _ => ?_) (fun _ => ?_)| refine z0l ?_)))
         all_goals try (exfalso; omega)
         all_goals exact z0f ihk' rfl rfl
       · have hok : okf (u1, u2, u3, u4) = (u1, u2, u3, true) := by simp [okf, hbad]
         rw [hok] at hse
         repeat' (first | (apply z0a; (first | refine z0n ?_| (apply z06; (first | refine z02 (z1v (u := z56 u1) hix) rfl rfl ?_| refine z02 (z1v (u := z2j u3) hix) rfl rfl ?_)) | (apply z0d; (refine z02 z36 rfl rfl ?_)) | (apply z0e; (refine z02 (z2t rfl) rfl rfl ?_)) | (apply z0t; (refine z02 (z0r z1d) rfl rfl ?_)) | (apply z0c; (refine z3x ((u1, u2, u3, true) : Uq) hix hse ?_)))) | (apply z09; (first | refine z0m ?_ | apply z07 | refine z1r ?_| refine z52 rfl rfl (fun _ => ?_) (fun _ => ?_))) | (apply z08; (first | apply z0b | apply z00 | apply z04 | apply z01 | apply z03 | refine z0h (fun _ => ?_) (fun _ => ?_)| refine z0l ?_)))
         all_goals try (exfalso; omega)
         all_goals exact z0f ihk' rfl rfl
     · obtain rfl : k = L.length := by omega
       rw [List.take_length, List.drop_length, List.append_nil]
       repeat' (first | (apply z0a; (refine z0n ?_)) | (apply z09; (first | refine z0m ?_ | apply z07)) | (apply z08; (first | apply z0b | apply z00 | apply z04 | apply z01 | refine z0h (fun _ => ?_) (fun _ => ?_)| refine z0l ?_)))
       all_goals try (exfalso; omega)
       refine z1l 1000 rfl ?_
       exact z0j Tryz.func77 _ z15 ⟨rfl, rfl⟩
theorem zng (s : ByteArray) (hs : s.size ≤ 1000000) : z13 Tryz.prog 42 [S s] (B (ztk s)) := by
 refine z1k fun H => ?_
 have hu := zr6 s hs
 have hall := zpw (rst s 0) 0
 change _ = ztk s at hall
 have hlen : ((uQ 0 (rst s 0)).map okf).length ≤ s.size := by
  rw [List.length_map, zmu]
  have := zgj s s.size 0 (by omega)
  omega
 generalize (uQ 0 (rst s 0)).map okf = L at *
 rw [← hall]
 refine z0k Tryz.func42 (by kernel_rfl) rfl (by simp) ?_
 dsimp only [Tryz.f42]
 repeat' (first | (apply z0a; (first | refine z0n ?_| (apply z0x; (refine z02 (z1i rfl) rfl rfl ?_)) | (apply z0q; (refine z1j hu ?_)))) | (apply z09; (first | refine z0m ?_ | apply z07)) | (apply z08; (first | apply z0b | apply z00 | apply z01)))
 all_goals try (exfalso; omega)
 refine z1f ?_
 refine z0f (z2f (fun q : Nat => ⟨16, [(6, .d (.slice (L.map uqc))), (7, I .i64 L.length), (8, I .i64 (q : Nat))], [], H⟩) (fun q => q ≤ L.length ∧ (L.drop q).all (fun u => u.2.2.2) = L.all (fun u => u.2.2.2)) (fun q => L.length - q) ?_ 0 ⟨Nat.zero_le _, rfl⟩) rfl rfl
 rintro i ⟨i1, i2⟩ ihl
 by_cases hlt : i < L.length
 · obtain ⟨u, hui⟩ : ∃ u, L[i]? = some u := ⟨_, List.getElem?_eq_getElem hlt⟩
   rw [drop_cons hui, List.all_cons] at i2
   have hx : (L.map uqc)[((i : Nat) : Int).toNat]? = some (uqc u) := by simp [hui]
   obtain ⟨u1, u2, u3, u4⟩ := u
   simp only at i2
   cases u4 with
   | true =>
    rw [Bool.true_and] at i2
    repeat' (first | (apply z0a; (first | refine z0n ?_| (apply z06; (first | refine z02 z1e rfl rfl ?_| refine z02 z1s rfl rfl ?_)) | (apply z0d; (refine z02 z0i rfl rfl ?_)) | (apply z0e; (refine z02 (z11 (ys := L.map uqc) rfl hx) rfl rfl ?_)) | (apply z0t; (refine z02 (z0r z1d) rfl rfl ?_)) | (apply z0c; (refine z1u ?_)) | (apply z0g; (refine z05 z29 ?_)))) | (apply z09; (first | refine z0m ?_ | apply z07)) | (apply z08; (first | apply z0b | apply z00 | refine z14 ?_| apply z04 | apply z01 | apply z03 | refine z0h (fun _ => ?_) (fun _ => ?_)| refine z0l ?_)))
    all_goals try (exfalso; omega)
    all_goals exact z0f (ihl (i + 1) ⟨by omega, i2⟩ (by omega)) rfl rfl
   | false =>
    rw [Bool.false_and] at i2
    rw [← i2]
    repeat' (first | (apply z0a; (first | refine z0n ?_| (apply z06; (first | refine z02 z1e rfl rfl ?_| refine z02 z1s rfl rfl ?_)) | (apply z0d; (refine z02 z0i rfl rfl ?_)) | (apply z0e; (refine z02 (z11 (ys := L.map uqc) rfl hx) rfl rfl ?_)) | (apply z0c; (refine z1u ?_)) | (apply z0g; (refine z05 z29 ?_)))) | (apply z09; (first | refine z0m ?_ | apply z07)) | (apply z08; (first | apply z0b | apply z00 | refine z1g ?_| apply z04 | apply z01 | refine z0h (fun _ => ?_) (fun _ => ?_)| refine z0l ?_)))
    all_goals try (exfalso; omega)
    all_goals exact z0j Tryz.func42 _ z15 ⟨rfl, rfl⟩
 · obtain rfl : i = L.length := by omega
   rw [List.drop_length] at i2
   rw [← i2]
   repeat' (first | (apply z0a; (refine z0n ?_)) | (apply z09; (first | refine z0m ?_ | apply z07)) | (apply z08; (first | apply z0b | apply z00 | apply z04 | apply z01 | refine z0h (fun _ => ?_) (fun _ => ?_)| refine z0l ?_)))
   all_goals try (exfalso; omega)
   all_goals exact z0j Tryz.func42 _ z15 ⟨rfl, rfl⟩
end Go.Proofs.YthdfkabdoidjfaaGreatDoor
namespace Go.Proofs.YthdfkabdoidjfaaGreatDoor
open Go.Ab Go.Rx
set_option maxHeartbeats 20000000
set_option maxRecDepth 100000
attribute [local irreducible] Run Ops Op1 z23 Val Tr z13 z22 NF Rel z4e z4d zf2
theorem zs0 (l : List Rg) (c : Int) : inB l c = inR l c := rfl
theorem zqd : ∀ (l : List U) (i : Nat), (unF i l).all okU = l.all zva
 | [], i => rfl
 | u :: l, i => by
  rw [unF, List.all_cons, List.all_cons, zqd l]
  congr 1
  simp only [okU, zva]
  congr 1
  rw [decide_eq_decide]; omega
theorem zqn (S : Nat) : ∀ (l : List Nat) (i acc : Nat), acc < 2 ^ 64 → (∀ x ∈ l, x < 2 ^ 64) → nxF S i acc l < 2 ^ 64
 | [], i, acc, h, _ => h
 | x :: l, i, acc, h, hl => by
  rw [nxF]
  refine zqn S l _ _ ?_ (fun y hy => hl y (by simp [hy]))
  split
  · exact Nat.or_lt_two_pow h (hl x (by simp))
  · exact h
end Go.Proofs.YthdfkabdoidjfaaGreatDoor
