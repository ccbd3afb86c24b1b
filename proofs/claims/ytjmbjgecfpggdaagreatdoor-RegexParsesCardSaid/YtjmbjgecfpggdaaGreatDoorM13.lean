/- A part of the proof: Z13. -/
import Derived.Test.YtjmbjgecfpggdaaGreatDoorM12
import Derived.Test.YtjmbjgecfpggdaaGreatDoorM3
set_option linter.all false
set_option linter.unusedVariables false
set_option linter.unusedSimpArgs false
namespace Go.Proofs.YtjmbjgecfpggdaaGreatDoor
open Go.Ab Go.Rx
set_option maxHeartbeats 20000000
set_option maxRecDepth 100000
attribute [local irreducible] Run Ops Op1 z2q Val Tr z1p z2j NF Rel z5b z5c z84
theorem zn4 (s : ByteArray) (hs : s.size ≤ 140737488351232) : z1p Tryz.prog 7 [S s] (.tup [.d (eX (z4q s).1), I .i64 (z4q s).2.1, I .i64 (z4q s).2.2]) := by
 refine z2e fun H => ?_
 refine z1c Tryz.func7 (by kernel_rfl) rfl (by simp) ?_
 dsimp only [Tryz.f7]
 by_cases h200 : 200 < s.size
 · rw [z4q, if_pos h200, z3x]
   repeat' (first | (apply z0e; (first | refine z11 rfl (by decide) ?_ | (apply z1e; (refine z00 (z3v rfl) rfl rfl (by decide) ?_)) | (apply z05; (refine z06 rfl rfl rfl rfl rfl rfl ?_)) | (apply z0n; (refine z0k (z0l rfl rfl (by decide)) ?_)) | (apply z0y; (refine z0x rfl rfl rfl rfl rfl rfl rfl (by decide) ?_)))) | (apply z0b; (first | refine z10 ?_ | apply z0d)) | (apply z0c; (first | apply z0f | apply z01 | apply z09 | refine z1i rfl (fun _ => ?_) (fun _ => ?_))))
   all_goals try (exfalso; omega)
   all_goals exact z0g Tryz.func7 _ (z2h rfl rfl rfl rfl rfl rfl rfl rfl) ⟨rfl, rfl⟩
 have hun := zqm s (by omega)
 have h5 := zu6 s (by omega)
 have hfit := zcx s
 have hmem := zcc s _ 0 (Nat.le_refl _)
 have hall := zrf (rst s 0) 0
 have hsz0 := z62 (s := s) (i := 0) (Nat.zero_le _)
 rw [z4q, if_neg h200] at hfit ⊢
 obtain ⟨us, hus⟩ : ∃ us, rst s 0 = us := ⟨_, rfl⟩
 rw [hus] at hun h5 hmem hall hsz0 hfit ⊢
 have hul : us.length ≤ s.size := by rw [← hus]; have := z6t s _ 0 (Nat.le_refl _); omega
 have hLg := zg0 us 0
 obtain ⟨L, hL⟩ : ∃ L, unF 0 us = L := ⟨_, rfl⟩
 have hLl : L.length = us.length := by rw [← hL, zgk]
 rw [hL] at hall hLg hfit ⊢
 generalize (uQ 0 us).map okf = qs at *
 have hql : qs.length = us.length := h5.len
 have hfw := h5.few
 repeat' (first | (apply z0e; (first | refine z11 rfl (by decide) ?_ | (apply z0a; (refine z00 (z0u rfl rfl rfl rfl) rfl rfl (by decide) ?_)) | (apply z07; (refine z00 (z04 rfl rfl) rfl rfl (by decide) ?_)) | (apply z1e; (first | refine z00 (z1q rfl) rfl rfl (by decide) ?_ | refine z00 (z3v rfl) rfl rfl (by decide) ?_)) | (apply z0o; (refine z2v hun rfl (by decide) ?_)) | (apply z05; (refine z06 rfl rfl rfl rfl rfl rfl ?_)) | (apply z0n; (refine z0k (z0l rfl rfl (by decide)) ?_)) | (apply z3b; (refine z0k (z6a rfl rfl rfl rfl rfl (by decide)) ?_)) | (apply z0y; (refine z0x rfl rfl rfl rfl rfl rfl rfl (by decide) ?_)))) | (apply z0b; (first | refine z10 ?_ | apply z0d)) | (apply z0c; (first | apply z0f | apply z01 | apply z09 | apply z03 | refine z1i rfl (fun _ => ?_) (fun _ => ?_))))
 all_goals try (exfalso; omega)
 refine z1x ?_
 refine z0s (z2u (fun q : Nat => ⟨73, [(0, S s), (2, .ptr (0, 2) 0), (5, .ptr (0, 17) 0), (21, .d (.slice (qs.map uqc))), (22, I .i64 qs.length), (23, I .i64 (q : Nat))], [(17, rbx s qs 0 0 0 false), (2, .box (z3y [Value.int .i64 0, Value.int .i64 0, Value.int .i64 0, z2o, z2o]))], H⟩)
  (fun q => q ≤ L.length ∧ (L.drop q).find? zbd = L.find? zbd) (fun q => L.length - q) ?_ 0 ⟨Nat.zero_le _, rfl⟩) rfl rfl
 intro q ⟨i1, i2⟩ ih
 by_cases hlt : q < L.length
 · obtain ⟨u, hu⟩ : ∃ u, us[q]? = some u := ⟨_, List.getElem?_eq_getElem (by omega)⟩
   have hLq := hLg q u hu
   have hq : qs[q]? = some (okf (u.r, ((0 + bts us - bts (us.drop q) : Nat) : Int), (u.n : Int), false)) := by
    rw [hall, List.getElem?_map, hLq]; rfl
   have hb := zsq (hmem u (List.mem_of_getElem? hu)).2 ((0 + bts us - bts (us.drop q) : Nat) : Int)
   rw [drop_cons hLq, List.find?_cons] at i2
   obtain ⟨ok, hok⟩ : ∃ ok, okf (u.r, ((0 + bts us - bts (us.drop q) : Nat) : Int), (u.n : Int), false) = (u.r, ((0 + bts us - bts (us.drop q) : Nat) : Int), (u.n : Int), ok) := ⟨_, rfl⟩
   rw [hok] at hq hb
   simp only at hb
   cases hbd : zbd (u.r, ((0 + bts us - bts (us.drop q) : Nat) : Int), (u.n : Int)) with
   | true =>
    rw [hbd] at i2 hb
    simp only [Bool.not_true] at i2 hb
    subst hb
    rw [← i2]
    simp only
    rw [z3x]
    repeat' (first | (apply z0e; (first | refine z11 rfl (by decide) ?_ | (apply z0a; (first | refine z00 (z0u rfl rfl rfl rfl) rfl rfl (by decide) ?_ | refine z00 (z14 rfl rfl) rfl rfl (by decide) ?_)) | (apply z07; (refine z00 (z04 rfl rfl) rfl rfl (by decide) ?_)) | (apply z1f; (refine z00 (z1b (ys := qs.map uqc) rfl (by omega) (idx hq) rfl) rfl rfl (by decide) ?_)) | (apply z05; (refine z06 rfl rfl rfl rfl rfl rfl ?_)) | (apply z0n; (refine z0k (z0l rfl rfl (by decide)) ?_)))) | (apply z0b; (first | refine z10 ?_ | apply z0d)) | (apply z0c; (first | apply z0f | apply z01 | refine z0r rfl ?_ | apply z09 | apply z03 | apply z56 | refine z1i rfl (fun _ => ?_) (fun _ => ?_) | refine z0p rfl ?_)) | (apply z57; (first | (apply z2g; refine z3o mix (by kernel_rfl) ?_) | refine z5i rfl (by first | exact rfl | exact ⟨_, rfl, rfl, rfl⟩) (by decide) ?_ | (apply z1r; (refine z1d (z0u rfl rfl rfl rfl) (by first | exact rfl | exact ⟨_, rfl, rfl, rfl⟩) rfl rfl (by decide) ?_)) | (apply z1l; (refine z1d (z04 rfl rfl) (by first | exact rfl | exact ⟨_, rfl, rfl, rfl⟩) rfl rfl (by decide) ?_)) | (apply z3w; (refine z4m (by first | exact rfl | exact ⟨_, rfl, rfl, rfl⟩) rfl rfl rfl rfl rfl rfl ?_)) | (apply z8v; (refine zbz (by first | exact rfl | exact ⟨_, rfl, rfl, rfl⟩) rfl rfl rfl rfl rfl rfl rfl (by decide) ?_)))))
    all_goals try (exfalso; omega)
    all_goals exact z0g Tryz.func7 _ (z2h rfl rfl rfl rfl rfl rfl rfl rfl) ⟨rfl, rfl⟩
   | false =>
    rw [hbd] at i2 hb
    simp only [Bool.not_false] at i2 hb
    subst hb
    repeat' (first | (apply z0e; (first | refine z11 rfl (by decide) ?_ | (apply z0a; (first | refine z00 (z0u rfl rfl rfl rfl) rfl rfl (by decide) ?_ | refine z00 (z14 rfl rfl) rfl rfl (by decide) ?_)) | (apply z07; (refine z00 (z04 rfl rfl) rfl rfl (by decide) ?_)) | (apply z1f; (refine z00 (z1b (ys := qs.map uqc) rfl (by omega) (idx hq) rfl) rfl rfl (by decide) ?_)) | (apply z13; (refine z00 (z19 (z1o (by omega) (by omega))) rfl rfl (by decide) ?_)) | (apply z05; (refine z06 rfl rfl rfl rfl rfl rfl ?_)) | (apply z0n; (refine z0k (z0l rfl rfl (by decide)) ?_)))) | (apply z0b; (first | refine z10 ?_ | apply z0d)) | (apply z0c; (first | apply z0f | apply z01 | refine z0h rfl ?_ | apply z09 | apply z03 | apply z08 | refine z1i rfl (fun _ => ?_) (fun _ => ?_) | refine z0p rfl ?_)))
    all_goals try (exfalso; omega)
    all_goals exact z0s (ih (q + 1) ⟨by omega, i2⟩ (by omega)) rfl rfl
 · obtain rfl : q = L.length := by omega
   rw [List.drop_length, List.find?_nil] at i2
   rw [← i2] at hfit ⊢
   simp only at hfit ⊢
   clear ih
   obtain ⟨N, hN⟩ : ∃ N, 4 * us.length + 4 = N := ⟨_, rfl⟩
   have hrl := (zj5 N).1 [] us (by simp)
   have hne := (zup N).1 [] us (by omega)
   rw [List.flatMap_nil] at hrl
   have hne2 : rU N [] (us.drop 0) ≠ .out := fun h => by
    rw [List.drop_zero] at h
    rw [h] at hrl; exact hne hrl
   have hk := znt (X := 17) h5 N (by omega) 0 (Nat.zero_le _) 0 hne2
   have hat := fun e r => zu2 (us := us) (n := N) (i := 0) (Nat.zero_le _) (e := e) (r := r)
   rw [List.drop_zero] at hk hat
   rw [z88, hN] at hfit ⊢
   cases hp : rU N [] us with
   | out => rw [List.drop_zero] at hne2; exact absurd hp hne2
   | res e t =>
    rw [hp] at hk hrl
    simp only [hp] at hat
    simp only [bkR, rsR] at hk
    cases t with
    | er y a c =>
     have hrl : pU N [] us = .err a c := hrl
     rw [hrl] at hfit ⊢
     have hsfx := (z9i N).1 [] us
     rw [hrl] at hsfx
     obtain ⟨k, _, hk2, rfl⟩ := z7n (us := us) (i := 0) (Nat.zero_le _) (by rw [List.drop_zero]; exact hsfx)
     have hbl : bts (us.drop k) ≤ s.size := by
      obtain ⟨j, _, hj, he⟩ := z4w s _ 0 (us.drop k) (Nat.le_refl _) (Nat.zero_le _) (by rw [hus]; exact hsfx)
      rw [he, z62 hj]; omega
     simp only [bkS] at hk ⊢
     rw [show (s.size : Int) - ((bts (us.drop k) : Nat) : Int) = ((s.size - bts (us.drop k) : Nat) : Int) by omega, z3x]
     obtain ⟨op, mn, mx, rs, ks⟩ := e
     rw [z2r] at hk
     repeat' (first | (apply z0e; (first | refine z11 rfl (by decide) ?_ | (apply z0a; (refine z00 (z0u rfl rfl rfl rfl) rfl rfl (by decide) ?_)) | (apply z07; (refine z00 (z04 rfl rfl) rfl rfl (by decide) ?_)) | (apply z0o; (refine z6s hk rfl rfl z1k (by decide) ?_)) | (apply z05; (refine z06 rfl rfl rfl rfl rfl rfl ?_)) | (apply z0n; (refine z0k (z0l rfl rfl (by decide)) ?_)))) | (apply z0b; (first | refine z10 ?_ | apply z0d)) | (apply z0c; (first | apply z0f | apply z01 | refine z0r rfl ?_ | refine z0h rfl ?_ | apply z09 | apply z03 | apply z56 | refine z1i rfl (fun _ => ?_) (fun _ => ?_) | refine z0p rfl ?_)) | (apply z57; (first | (apply z2g; refine z3o mix (by kernel_rfl) ?_) | refine z4j rfl rfl (by decide) ?_ | refine z5i rfl (by first | exact rfl | exact ⟨_, rfl, rfl, rfl⟩) (by decide) ?_ | (apply z1r; (refine z1d (z0u rfl rfl rfl rfl) (by first | exact rfl | exact ⟨_, rfl, rfl, rfl⟩) rfl rfl (by decide) ?_)) | (apply z1l; (refine z1d (z04 rfl rfl) (by first | exact rfl | exact ⟨_, rfl, rfl, rfl⟩) rfl rfl (by decide) ?_)) | (apply z3w; (refine z4m (by first | exact rfl | exact ⟨_, rfl, rfl, rfl⟩) rfl rfl rfl rfl rfl rfl ?_)) | (apply z8v; (refine zbz (by first | exact rfl | exact ⟨_, rfl, rfl, rfl⟩) rfl rfl rfl rfl rfl rfl rfl (by decide) ?_)))))
     all_goals try (exfalso; omega)
     all_goals exact z0g Tryz.func7 _ (z2h rfl rfl rfl rfl rfl rfl rfl rfl) ⟨rfl, rfl⟩
    | ok r =>
     have hrl : pU N [] us = .ok e r := hrl
     obtain ⟨j, _, hj, rfl⟩ := hat e r rfl
     rw [hrl] at hfit ⊢
     rw [z3j hj] at hk
     by_cases hjl : j < us.length
     · have hy := zj6 (X := 17) h5 j hj 0
       obtain ⟨v, hv⟩ : ∃ v, us.drop j = v :: us.drop (j + 1) := ⟨_, List.drop_eq_getElem_cons hjl⟩
       have hbl : bts (us.drop j) ≤ s.size := by
        obtain ⟨k, _, hk2, he⟩ := z4w s _ 0 (us.drop j) (Nat.le_refl _) (Nat.zero_le _) (by rw [hus]; exact List.drop_suffix _ _)
        rw [he, z62 hk2]; omega
       rw [hv]
       simp only
       rw [← hv, show (s.size : Int) - ((bts (us.drop j) : Nat) : Int) = ((s.size - bts (us.drop j) : Nat) : Int) by omega, z3x]
       clear hfit
       obtain ⟨op, mn, mx, rs, ks⟩ := e
       rw [z2r] at hk
       repeat' (first | (apply z0e; (first | refine z11 rfl (by decide) ?_ | (apply z0a; (first | refine z00 (z0u rfl rfl rfl rfl) rfl rfl (by decide) ?_ | refine z00 (z15 rfl rfl rfl rfl) rfl rfl (by decide) ?_)) | (apply z07; (refine z00 (z04 rfl rfl) rfl rfl (by decide) ?_)) | (apply z0o; (first | refine z6s hy rfl rfl z1k (by decide) ?_ | refine z6s hk rfl rfl z1k (by decide) ?_)) | (apply z05; (refine z06 rfl rfl rfl rfl rfl rfl ?_)) | (apply z0n; (refine z0k (z0l rfl rfl (by decide)) ?_)))) | (apply z0b; (first | refine z10 ?_ | apply z0d)) | (apply z0c; (first | apply z0f | apply z01 | refine z0r rfl ?_ | refine z0h rfl ?_ | apply z09 | apply z03 | apply z56 | refine z1i rfl (fun _ => ?_) (fun _ => ?_) | refine z0p rfl ?_)) | (apply z57; (first | (apply z2g; refine z3o mix (by kernel_rfl) ?_) | refine z5i rfl (by first | exact rfl | exact ⟨_, rfl, rfl, rfl⟩) (by decide) ?_ | (apply z1r; (refine z1d (z0u rfl rfl rfl rfl) (by first | exact rfl | exact ⟨_, rfl, rfl, rfl⟩) rfl rfl (by decide) ?_)) | (apply z1l; (refine z1d (z04 rfl rfl) (by first | exact rfl | exact ⟨_, rfl, rfl, rfl⟩) rfl rfl (by decide) ?_)) | (apply z4u; (refine z1d (z1q rfl) (by first | exact rfl | exact ⟨_, rfl, rfl, rfl⟩) rfl rfl (by decide) ?_)) | (apply z3w; (refine z4m (by first | exact rfl | exact ⟨_, rfl, rfl, rfl⟩) rfl rfl rfl rfl rfl rfl ?_)) | (apply z8v; (refine zbz (by first | exact rfl | exact ⟨_, rfl, rfl, rfl⟩) rfl rfl rfl rfl rfl rfl rfl (by decide) ?_)))))
       all_goals try (exfalso; omega)
       all_goals exact z0g Tryz.func7 _ (z2h rfl rfl rfl rfl rfl rfl rfl rfl) ⟨rfl, rfl⟩
     · have hd : us.drop j = [] := List.drop_eq_nil_of_le (by omega)
       rw [hd] at hfit ⊢
       simp only at hfit ⊢
       by_cases hv0 : val e ≠ 0
       · rw [if_pos hv0, z3x]
         have hsz := (zsd N).1 [] us e _ hrl
         simp only [szL] at hsz
         have hrs := (zum 1000001 N).1 [] us e _ (by omega) (by rw [zcl]; trivial) hrl
         have hv := zbv e ((zpe 3000000 (by decide)).1 e (by omega) (zp9 (C := 1000001) (D := 3000000) (by decide) hrs))
         obtain ⟨op, mn, mx, rs, ks⟩ := e
         rw [z2r] at hk
         rw [zgy] at hv
         repeat' (first | (apply z0e; (first | refine z11 rfl (by decide) ?_ | (apply z0a; (first | refine z00 (z0u rfl rfl rfl rfl) rfl rfl (by decide) ?_ | refine z00 (z15 rfl rfl rfl rfl) rfl rfl (by decide) ?_)) | (apply z07; (refine z00 (z04 rfl rfl) rfl rfl (by decide) ?_)) | (apply z0o; (first | refine z6s hk rfl rfl z1k (by decide) ?_ | refine z2v hv rfl (by decide) ?_)) | (apply z05; (refine z06 rfl rfl rfl rfl rfl rfl ?_)) | (apply z0n; (refine z0k (z0l rfl rfl (by decide)) ?_)) | (apply z0y; (refine z0x rfl rfl rfl rfl rfl rfl rfl (by decide) ?_)))) | (apply z0b; (first | refine z10 ?_ | apply z0d)) | (apply z0c; (first | apply z0f | apply z01 | refine z0h rfl ?_ | apply z09 | apply z03 | apply z56 | refine z1i rfl (fun _ => ?_) (fun _ => ?_) | refine z2i rfl (fun _ => ?_) (fun _ => ?_) | refine z0p rfl ?_)) | (apply z57; (first | (apply z2g; refine z3o mix (by kernel_rfl) ?_) | refine z5i rfl (by first | exact rfl | exact ⟨_, rfl, rfl, rfl⟩) (by decide) ?_ | (apply z1r; (refine z1d (z0u rfl rfl rfl rfl) (by first | exact rfl | exact ⟨_, rfl, rfl, rfl⟩) rfl rfl (by decide) ?_)) | (apply z1l; (refine z1d (z04 rfl rfl) (by first | exact rfl | exact ⟨_, rfl, rfl, rfl⟩) rfl rfl (by decide) ?_)) | (apply z4u; (refine z1d (z1q rfl) (by first | exact rfl | exact ⟨_, rfl, rfl, rfl⟩) rfl rfl (by decide) ?_)))))
         all_goals try (exfalso; omega)
         all_goals exact z0g Tryz.func7 _ (z2h rfl rfl rfl rfl rfl rfl rfl rfl) ⟨rfl, rfl⟩
       · rw [if_neg hv0] at hfit ⊢
         have hv := zbv e hfit
         rw [Classical.not_not.1 hv0] at hv
         obtain ⟨op, mn, mx, rs, ks⟩ := e
         rw [z2r] at hk ⊢
         rw [zgy] at hv
         repeat' (first | (apply z0e; (first | refine z11 rfl (by decide) ?_ | (apply z0a; (first | refine z00 (z0u rfl rfl rfl rfl) rfl rfl (by decide) ?_ | refine z00 (z15 rfl rfl rfl rfl) rfl rfl (by decide) ?_)) | (apply z07; (refine z00 (z04 rfl rfl) rfl rfl (by decide) ?_)) | (apply z0o; (first | refine z6s hk rfl rfl z1k (by decide) ?_ | refine z2v hv rfl (by decide) ?_)) | (apply z05; (refine z06 rfl rfl rfl rfl rfl rfl ?_)) | (apply z0n; (refine z0k (z0l rfl rfl (by decide)) ?_)))) | (apply z0b; (first | refine z10 ?_ | apply z0d)) | (apply z0c; (first | apply z0f | apply z01 | refine z0h rfl ?_ | apply z09 | apply z03 | apply z56 | refine z1i rfl (fun _ => ?_) (fun _ => ?_) | refine z0p rfl ?_)) | (apply z57; (first | (apply z2g; refine z3o mix (by kernel_rfl) ?_) | refine z5i rfl (by first | exact rfl | exact ⟨_, rfl, rfl, rfl⟩) (by decide) ?_ | (apply z1r; (refine z1d (z0u rfl rfl rfl rfl) (by first | exact rfl | exact ⟨_, rfl, rfl, rfl⟩) rfl rfl (by decide) ?_)) | (apply z1l; (refine z1d (z04 rfl rfl) (by first | exact rfl | exact ⟨_, rfl, rfl, rfl⟩) rfl rfl (by decide) ?_)) | (apply z4u; (refine z1d (z1q rfl) (by first | exact rfl | exact ⟨_, rfl, rfl, rfl⟩) rfl rfl (by decide) ?_)))))
         all_goals try (exfalso; omega)
         all_goals exact z0g Tryz.func7 _ (z2h rfl rfl rfl rfl rfl rfl rfl rfl) ⟨rfl, rfl⟩
theorem znr (τ : Tab) (s : ByteArray) (hs : s.size ≤ 140737488351232) : z2j Tryz.prog 3 [S s] (zdq τ 0) [] (B true) := by
 refine z2k fun H hH => ?_
 have hX0 := hH ((0, 700), .glob 0 τ.o0) (by simp)
 have hX1 := hH ((0, 701), .glob 1 τ.o1) (by simp)
 have ha := zr4 τ
 have hp1 := zjs τ s hs
 have hp2 := zn4 s hs
 have hsm := ztp _ (zcx s)
 generalize z4q s = P1 at *
 obtain ⟨e, a1, e1⟩ := P1
 simp only at hp1 hp2 hsm
 obtain ⟨op, mn, mx, rs, ks⟩ := e
 rw [z2r] at hp1 hp2
 rw [zgy] at hsm
 refine z1c Tryz.func3 (by kernel_rfl) rfl (by simp) ?_
 dsimp only [Tryz.f3]
 refine z6y 700 0 700 hX0 rfl rfl ?_
 refine z6y 701 0 701 (z18 hX1 (by simp)) rfl rfl ?_
 repeat' (first | (apply z0e; (first | refine z11 rfl (by decide) ?_ | (apply z0a; (refine z00 (z15 rfl rfl rfl rfl) rfl rfl (by decide) ?_)) | (apply z1e; (refine z00 (z3v rfl) rfl rfl (by decide) ?_)) | (apply z0o; (first | refine z0m ha rfl rfl (by decide) ?_ | refine z0m hp1 rfl rfl (by decide) ?_ | refine z2v hp2 rfl (by decide) ?_ | refine z2v hsm rfl (by decide) ?_)) | (apply z05; (refine z06 rfl rfl rfl rfl rfl rfl ?_)) | (apply z0n; (refine z0k (z0l rfl rfl (by decide)) ?_)))) | (apply z0b; (first | refine z10 ?_ | apply z0d | refine z2f rfl rfl (by decide) ?_ | refine z16 rfl rfl (fun _ => ?_) (fun _ => ?_))) | (apply z0c; (first | apply z0f | apply z01 | apply z09 | refine z1i rfl (fun _ => ?_) (fun _ => ?_))))
 all_goals try (exfalso; first | omega | contradiction | (simp_all; done))
 all_goals refine z52 700 0 700 (raw := .glob 0 τ.o0) rfl rfl (z18 (z43 _ (0, 700) _) (by simp)) rfl rfl ?_
 all_goals refine z52 701 0 701 (raw := .glob 1 τ.o1) rfl rfl (z18 (z43 _ (0, 701) _) (by simp)) rfl rfl ?_
 all_goals exact z0g Tryz.func3 _ (z0j rfl rfl) ⟨rfl, zf5 hX0 hX1⟩
end Go.Proofs.YtjmbjgecfpggdaaGreatDoor
