/- A part of the proof: A14, A30, A31. -/
import Derived.Test.YthdfkabdoidjfaaGreatDoorR3
import Derived.Test.YthdfkabdoidjfaaGreatDoorR4
import Derived.Test.YthdfkabdoidjfaaGreatDoorRv
set_option linter.all false
set_option linter.unusedVariables false
set_option linter.unusedSimpArgs false
namespace Go.Proofs.YthdfkabdoidjfaaGreatDoor
open Go.Ab Go.Ax
set_option maxHeartbeats 20000000
set_option maxRecDepth 100000
attribute [local irreducible] Run Ops Op1 z2f Val Tr z1f z2d NF Rel z47 z48
theorem zjf (b1 b2 : Blk) (ok : Bool × Nat → Prop) (fin : Bool × Nat → Bool) (edg : Bool × Nat → List (Go.Ax.Edge (Bool × Nat))) (first : Bool × Nat) (lim : Int) (hl0 : 1 ≤ lim) (hl1 : lim ≤ 2000000) (hok0 : ok first)
  (hfin : ∀ k, ok k → z2d Tryz.prog 58 [scP k, .ptr (1, 4) 0] [((1, 4), b1), ((1, 14), b2)] [] (B (fin k))) (hedg : ∀ k, ok k → z2d Tryz.prog 59 [scP k, .ptr (1, 4) 0] [((1, 4), b1), ((1, 14), b2)] [] (.d (.slice ((edg k).map sed)))) (hE : ∀ k, ok k → edE (edg k) ∧ ∀ e ∈ edg k, ok e.2.2)
  (H : Hf) (hb1 : H 0 4 = some b1) (hb2 : H 0 14 = some b2) :
  Ab.Spec Tryz.prog 63 [scP first, .fn (.func 58) [] [.ptr (0, 4) 0], .fn (.func 59) [] [.ptr (0, 4) 0], I .i64 lim] H (fun r H' => r = .v (exR (exL fin edg lim.toNat (lim.toNat + 1) 0 [first] ⟨[], []⟩)) ∧ H' = H) := by
 have hb : ∀ (n : Nat) (tm : List (Nat × PV)) (hp : Hp), BkE ⟨n, tm, hp, H⟩ [((1, 4), b1), ((1, 14), b2)] := fun n tm hp => by simp [BkE, z4d, push, hb1, hb2]
 refine z0t Tryz.func63 (by kernel_rfl) rfl (by simp) ?_
 dsimp only [Tryz.f63]
 repeat' (first | (apply z0c; (first | refine z9w (by decide) rfl ?_ | refine zdw (et := 3) (a := first) (v := z2x 0) (py := scP first) (q := ([] : List ((Bool × Nat) × D))) (by kernel_rfl) znp rfl rfl znn rfl rfl rfl ?_ | refine z0v rfl (by decide) ?_ | (apply z09; (refine z00 (z2i rfl rfl rfl) rfl rfl (by decide) ?_)) | (apply z0l; (refine z07 (z0k rfl rfl (by decide)) ?_)) | (apply z2b; (refine z07 (z2k rfl rfl rfl rfl rfl (by decide)) ?_)) | (apply z2j; (refine zcr rfl rfl rfl rfl rfl rfl rfl rfl rfl (by decide) ?_)))) | (apply z0b; (first | refine z0u ?_ | apply z0a)) | (apply z0d; (first | apply z0e | apply z01 | apply z02)))
 refine z2h 24 1000 rfl rfl ?_
 refine z3y 10 0 1001 4 1 rfl rfl rfl rfl ?_
 refine z3y 10 1 1002 39 1 rfl rfl rfl rfl ?_
 generalize hres : exL fin edg lim.toNat (lim.toNat + 1) 0 [first] ⟨[], []⟩ = res
 refine z1q ?_
 refine z0o (z2r (fun q : Nat × List (Bool × Nat) × Au => ⟨128, [(1, .fn (.func 58) [] [.ptr (1, 4) 0]), (2, .fn (.func 59) [] [.ptr (1, 4) 0]), (3, I .i64 lim), (8, .ptr (0, 8) 0), (10, .ptr (0, 10) 0), (11, .ref (0, 20)), (12, .ref (0, 1000)), (13, I .i64 (q.1 : Nat))], [(20, mpS q.2.1), (1000, .row 78 2 (q.2.1.map scc)), (10, .box [.ref (0, 1001), .ref (0, 1002)]), (1001, .row 4 1 (q.2.2.F.map boc)), (1002, .row 39 1 (q.2.2.A.map z5x)), (8, .box [.d (.lit z3s), .d (.lit z3s)])], H⟩) (fun q => q.1 ≤ q.2.1.length ∧ 1 ≤ q.2.1.length ∧ q.2.1.length ≤ lim.toNat ∧ q.2.2.F.length = q.1 ∧ q.2.2.A.length = q.1 ∧ (∀ x ∈ q.2.1, ok x) ∧ exL fin edg lim.toNat (lim.toNat + 1 - q.1) q.1 q.2.1 q.2.2 = res) (fun q => lim.toNat + 1 - q.1) ?_ (0, [first], ⟨[], []⟩) ⟨Nat.zero_le _, Nat.le_refl _, by simp only [List.length_singleton]; omega, rfl, rfl, fun x hx => by rw [List.mem_singleton] at hx; rw [hx]; exact hok0, hres⟩) rfl rfl
 rintro ⟨i, ks, ⟨F, A⟩⟩ ⟨i1, i2, i3, i4, i5, i7, i6⟩ ih
 simp only at i1 i2 i3 i4 i5 i6 i7 ih ⊢
 by_cases hlt : i < ks.length
 · obtain ⟨k, hk⟩ : ∃ k, ks[i]? = some k := ⟨_, List.getElem?_eq_getElem hlt⟩
   obtain ⟨n, hn⟩ : ∃ n, lim.toNat + 1 - i = n + 1 := ⟨lim.toNat - i, by omega⟩
   rw [hn, exL, hk] at i6
   simp only at i6
   have hok := i7 k (List.mem_of_getElem? hk)
   have hff := hfin k hok
   have hee := hedg k hok
   obtain ⟨⟨hE1, hE2⟩, hE3⟩ := hE k hok
   generalize edg k = es at *
   generalize fin k = fb at *
   repeat' (first | (apply z0c; (first | refine z0v rfl (by decide) ?_ | (apply z09; (refine z00 (z8f hk rfl rfl) rfl rfl (by decide) ?_)) | (apply z0n; (refine z00 (z13 rfl (by omega) (by omega) rfl) rfl rfl (by decide) ?_)) | (apply z1a; (first | refine z00 (z6a rfl) rfl rfl (by decide) ?_ | refine z00 (z1r rfl) rfl rfl (by decide) ?_)) | (apply z16; (refine zp8 (first := []) (cap := [.ptr (1, 4) 0]) (ps := [scP k]) hee rfl rfl (hb _ _ _) (by decide) ?_)))) | (apply z0b; (first | refine z0u ?_ | apply z0a)) | (apply z0d; (first | apply z0e | apply z01 | apply z06 | apply z02 | refine z1j rfl (fun _ => ?_) (fun _ => ?_) | refine z0j rfl ?_)))
   all_goals try (exfalso; simp only [List.length_map] at *; omega)
   refine z2o 14 1003 38 3 rfl rfl rfl ?_
   refine z1q ?_
   refine z0o (z2r (fun q : Nat × List (Bool × Nat) × List Arc => ⟨128, [(1, .fn (.func 58) [] [.ptr (1, 4) 0]), (2, .fn (.func 59) [] [.ptr (1, 4) 0]), (3, I .i64 lim), (8, .ptr (0, 8) 0), (10, .ptr (0, 10) 0), (11, .ref (0, 20)), (12, .ref (0, 1000)), (13, I .i64 (i : Nat)), (14, .ref (0, 1003)), (36, .d (.slice (es.map sed))), (37, I .i64 es.length), (38, I .i64 (q.1 : Nat))], [(20, mpS q.2.1), (1000, .row 78 2 (q.2.1.map scc)), (1003, .row 38 3 (q.2.2.map z2z)), (10, .box [.ref (0, 1001), .ref (0, 1002)]), (1001, .row 4 1 (F.map boc)), (1002, .row 39 1 (A.map z5x)), (8, .box [.d (.lit z3s), .d (.lit z3s)])], H⟩) (fun q => q.1 ≤ es.length ∧ q.2.2.length ≤ q.1 ∧ q.2.1.length ≤ ks.length + q.1 ∧ q.2.1[i]? = some k ∧ (∀ y ∈ q.2.2, 0 ≤ y.2.1 ∧ y.2.1 ≤ 1114111) ∧ (∀ x ∈ q.2.1, ok x) ∧ (es.drop q.1).foldl z7z q.2 = es.foldl z7z (ks, [])) (fun q => es.length - q.1) ?_ (0, ks, []) ⟨Nat.zero_le _, Nat.le_refl _, Nat.le_refl _, hk, by simp, i7, rfl⟩) rfl rfl
   rintro ⟨j, ks2, arcs⟩ ⟨j1, j2, j3, j4, j5, j7, j6⟩ ihj
   simp only at j1 j2 j3 j4 j5 j6 j7 ihj ⊢
   by_cases hjl : j < es.length
   · obtain ⟨e, he⟩ : ∃ e, es[j]? = some e := ⟨_, List.getElem?_eq_getElem hjl⟩
     obtain ⟨r1, r2, r3⟩ := hE2 e (List.mem_of_getElem? he)
     rw [drop_cons he, List.foldl_cons, z7z] at j6
     simp only at j6
     have hal := zal ks2 e.2.2
     have hln := z9m arcs e.1 e.2.1 (z4x e.2.2 ks2 : Nat)
     have ihj' := ihj (j + 1, z7v ks2 e.2.2, ext arcs e.1 e.2.1 (z4x e.2.2 ks2 : Nat)) ⟨by simp only; omega, by simp only; omega, by simp only; omega, by simp only; obtain ⟨x, hx⟩ := z8k ks2 e.2.2; rw [hx, List.getElem?_append_left (List.getElem?_eq_some_iff.1 j4).1]; exact j4, fun y hy => by
      rcases ext_mem hy with h | h
      · omega
      · exact j5 y h, fun x hx => by
      rcases z8o hx with h | h
      · rw [h]; exact hE3 e (List.mem_of_getElem? he)
      · exact j7 x h, j6⟩ (by simp only; omega)
     have hget := z7k e.2.2 ks2 0
     clear ihj hal
     by_cases hknown : e.2.2 ∈ ks2
     · rw [z7v, if_pos hknown] at ihj'
       rw [if_pos hknown, Nat.zero_add] at hget
       have hget1 : (z5h (z3m 0 ks2) e.2.2).getD (.lit (.int .i64 0)) = z2x (z4x e.2.2 ks2 : Nat) := by rw [hget]; rfl
       have hget2 : (z5h (z3m 0 ks2) e.2.2).isSome = true := by rw [hget]; rfl
       generalize z4x e.2.2 ks2 = qv at *
       rcases zgr arcs with rfl | ⟨m, y, rfl⟩
       · rw [ext_nil] at ihj'
         repeat' (first | (apply z0c; (first | refine z07 (z2g (et := 3) (a := e.2.2) (q := z3m 0 ks2) (z0 := Value.int .i64 0) (py := scP e.2.2) (by kernel_rfl) znp (z2l (by kernel_rfl)) rfl rfl rfl znn rfl hget1 hget2 (by decide)) ?_ | refine z0v rfl (by decide) ?_ | (apply z09; (first | refine z00 (z0g rfl rfl rfl rfl) rfl rfl (by decide) ?_ | refine z00 (z0q rfl rfl) rfl rfl (by decide) ?_ | refine z00 (z14 rfl rfl rfl rfl) rfl rfl (by decide) ?_)) | (apply z0h; (refine z00 (z04 rfl rfl) rfl rfl (by decide) ?_)) | (apply z0n; (refine z00 (z0i (ys := es.map sed) rfl (by omega) (idx he) rfl) rfl rfl (by decide) ?_)) | (apply z18; (refine z00 (z11 (z1n (by omega) (by omega))) rfl rfl (by decide) ?_)) | (apply z1a; (first | refine z00 (z1p rfl) rfl rfl (by decide) ?_ | refine z1u (g := z2z) rfl rfl (e.1, e.2.1, ((qv : Nat) : Int)) rfl rfl rfl rfl rfl rfl rfl (by decide) (by simp) ?_)) | (apply z0f; (refine z08 rfl rfl rfl rfl rfl rfl ?_)) | (apply z0l; (refine z07 (z0k rfl rfl (by decide)) ?_)) | (apply z0z; (refine z10 rfl rfl rfl rfl rfl rfl rfl (by decide) ?_)) | (apply z2j; (refine z2q rfl rfl rfl rfl rfl rfl rfl rfl (by decide) ?_)))) | (apply z0b; (first | refine z0u ?_ | apply z0a)) | (apply z0d; (first | apply z0e | apply z01 | refine z0m rfl ?_ | apply z06 | apply z02 | apply z3c | apply z03 | refine z1j rfl (fun _ => ?_) (fun _ => ?_) | refine z0j rfl ?_)) | (apply z3b; (first | (apply z1k; refine z2a mix (by kernel_rfl) ?_) | refine z2e rfl rfl (by decide) ?_ | refine z3g rfl (by first | exact rfl | exact ⟨_, rfl, rfl, rfl⟩) (by decide) ?_ | (apply z0x; (refine z05 (z0g rfl rfl rfl rfl) (by first | exact rfl | exact ⟨_, rfl, rfl, rfl⟩) rfl rfl (by decide) ?_)) | (apply z0w; (refine z05 (z04 rfl rfl) (by first | exact rfl | exact ⟨_, rfl, rfl, rfl⟩) rfl rfl (by decide) ?_)))))
         all_goals try (exfalso; first | omega | (simp at *; done))
         all_goals skip
         all_goals refine z2h 103 1003 rfl rfl ?_
         all_goals exact z0o ihj' rfl rfl
       · have hy := j5 y (by simp)
         have hal : ((m ++ [y]).map z2z).length = m.length + 1 := by simp
         have hal2 : (m ++ [y]).length = m.length + 1 := by simp
         have hix : (m ++ [y])[(((((m ++ [y]).length : Nat) : Int) - 1)).toNat]? = some y := by
          rw [hal2, show (((m.length + 1 : Nat) : Int) - 1).toNat = m.length by omega]; simp
         have hse : (m ++ [y]).set (((((m ++ [y]).length : Nat) : Int) - 1)).toNat ((y.1, e.2.1, y.2.2) : Arc) = m ++ [(y.1, e.2.1, y.2.2)] := by
          rw [hal2, show (((m.length + 1 : Nat) : Int) - 1).toNat = m.length by omega]; simp
         rw [z3w] at ihj'
         by_cases hj : y.2.1 + 1 = e.1 ∧ y.2.2 = (qv : Nat)
         · have hyq : (y.1, e.2.1, ((qv : Nat) : Int)) = ((y.1, e.2.1, y.2.2) : Arc) := by rw [hj.2]
           rw [if_pos hj, hyq] at ihj'
           repeat' (first | (apply z0c; (first | refine z07 (z2g (et := 3) (a := e.2.2) (q := z3m 0 ks2) (z0 := Value.int .i64 0) (py := scP e.2.2) (by kernel_rfl) znp (z2l (by kernel_rfl)) rfl rfl rfl znn rfl hget1 hget2 (by decide)) ?_ | refine z0v rfl (by decide) ?_ | (apply z09; (first | refine z00 (z0g rfl rfl rfl rfl) rfl rfl (by decide) ?_ | refine z00 (z0q rfl rfl) rfl rfl (by decide) ?_ | refine z00 (z14 rfl rfl rfl rfl) rfl rfl (by decide) ?_)) | (apply z0h; (first | refine z00 (z04 rfl rfl) rfl rfl (by decide) ?_ | refine z00 (z1s rfl rfl) rfl rfl (by decide) ?_)) | (apply z0n; (first | refine z00 (z0i (ys := es.map sed) rfl (by omega) (idx he) rfl) rfl rfl (by decide) ?_ | refine z00 (z13 rfl (by omega) (by omega) rfl) rfl rfl (by decide) ?_)) | (apply z18; (first | refine z00 (z11 (z1n (by omega) (by omega))) rfl rfl (by decide) ?_ | refine z00 (z29 (z1n (by omega) (by omega))) rfl rfl (by decide) ?_)) | (apply z1a; (first | refine z00 (z1p rfl) rfl rfl (by decide) ?_ | refine z1u (g := z2z) rfl rfl (e.1, e.2.1, ((qv : Nat) : Int)) rfl rfl rfl rfl rfl rfl rfl (by decide) (by omega) ?_)) | (apply z0f; (first | refine z1v ((y.1, e.2.1, y.2.2) : Arc) rfl rfl rfl rfl hix rfl rfl rfl hse ?_ | refine z08 rfl rfl rfl rfl rfl rfl ?_)) | (apply z0l; (refine z07 (z0k rfl rfl (by decide)) ?_)) | (apply z0z; (refine z10 rfl rfl rfl rfl rfl rfl rfl (by decide) ?_)) | (apply z2j; (refine z2q rfl rfl rfl rfl rfl rfl rfl rfl (by decide) ?_)))) | (apply z0b; (first | refine z0u ?_ | apply z0a)) | (apply z0d; (first | apply z0e | apply z01 | refine z0m rfl ?_ | apply z06 | apply z02 | apply z3c | apply z03 | refine z1j rfl (fun _ => ?_) (fun _ => ?_) | refine z0j rfl ?_)) | (apply z3b; (first | (apply z1k; refine z2a mix (by kernel_rfl) ?_) | refine z2e rfl rfl (by decide) ?_ | refine z3g rfl (by first | exact rfl | exact ⟨_, rfl, rfl, rfl⟩) (by decide) ?_ | (apply z0x; (first | refine z05 (z19 (u := z5u y.2.1) hix rfl rfl rfl) (by first | exact rfl | exact ⟨_, rfl, rfl, rfl⟩) rfl rfl (by decide) ?_ | refine z05 (z19 (u := z2x y.2.2) hix rfl rfl rfl) (by first | exact rfl | exact ⟨_, rfl, rfl, rfl⟩) rfl rfl (by decide) ?_ | refine z05 (z0g rfl rfl rfl rfl) (by first | exact rfl | exact ⟨_, rfl, rfl, rfl⟩) rfl rfl (by decide) ?_)) | (apply z0w; (first | refine z05 (z04 rfl rfl) (by first | exact rfl | exact ⟨_, rfl, rfl, rfl⟩) rfl rfl (by decide) ?_ | refine z05 (z1s rfl rfl) (by first | exact rfl | exact ⟨_, rfl, rfl, rfl⟩) rfl rfl (by decide) ?_)) | (apply z1g; (refine z05 (z13 rfl (by omega) (by omega) rfl) (by first | exact rfl | exact ⟨_, rfl, rfl, rfl⟩) rfl rfl (by decide) ?_)) | (apply z2c; (first | refine z05 (z11 (z99 (by omega) (by omega))) (by first | exact rfl | exact ⟨_, rfl, rfl, rfl⟩) rfl rfl (by decide) ?_ | refine z05 (z29 (z1n (by omega) (by omega))) (by first | exact rfl | exact ⟨_, rfl, rfl, rfl⟩) rfl rfl (by decide) ?_)) | (refine z1t rfl rfl (fun hg => ?_) (fun hg => ?_) <;> simp only [hg] <;> (try simp only [decide_eq_true_eq, decide_eq_false_iff_not, Bool.not_eq_true', Bool.not_eq_false'] at hg)))))
           all_goals try (exfalso; omega)
           all_goals skip
           all_goals exact z0o ihj' rfl rfl
         · rw [if_neg hj] at ihj'
           repeat' (first | (apply z0c; (first | refine z07 (z2g (et := 3) (a := e.2.2) (q := z3m 0 ks2) (z0 := Value.int .i64 0) (py := scP e.2.2) (by kernel_rfl) znp (z2l (by kernel_rfl)) rfl rfl rfl znn rfl hget1 hget2 (by decide)) ?_ | refine z0v rfl (by decide) ?_ | (apply z09; (first | refine z00 (z0g rfl rfl rfl rfl) rfl rfl (by decide) ?_ | refine z00 (z0q rfl rfl) rfl rfl (by decide) ?_ | refine z00 (z14 rfl rfl rfl rfl) rfl rfl (by decide) ?_)) | (apply z0h; (first | refine z00 (z04 rfl rfl) rfl rfl (by decide) ?_ | refine z00 (z1s rfl rfl) rfl rfl (by decide) ?_)) | (apply z0n; (first | refine z00 (z0i (ys := es.map sed) rfl (by omega) (idx he) rfl) rfl rfl (by decide) ?_ | refine z00 (z13 rfl (by omega) (by omega) rfl) rfl rfl (by decide) ?_)) | (apply z18; (first | refine z00 (z11 (z1n (by omega) (by omega))) rfl rfl (by decide) ?_ | refine z00 (z29 (z1n (by omega) (by omega))) rfl rfl (by decide) ?_)) | (apply z1a; (first | refine z00 (z1p rfl) rfl rfl (by decide) ?_ | refine z1u (g := z2z) rfl rfl (e.1, e.2.1, ((qv : Nat) : Int)) rfl rfl rfl rfl rfl rfl rfl (by decide) (by omega) ?_)) | (apply z0f; (first | refine z1v ((y.1, e.2.1, y.2.2) : Arc) rfl rfl rfl rfl hix rfl rfl rfl hse ?_ | refine z08 rfl rfl rfl rfl rfl rfl ?_)) | (apply z0l; (refine z07 (z0k rfl rfl (by decide)) ?_)) | (apply z0z; (refine z10 rfl rfl rfl rfl rfl rfl rfl (by decide) ?_)) | (apply z2j; (refine z2q rfl rfl rfl rfl rfl rfl rfl rfl (by decide) ?_)))) | (apply z0b; (first | refine z0u ?_ | apply z0a)) | (apply z0d; (first | apply z0e | apply z01 | refine z0m rfl ?_ | apply z06 | apply z02 | apply z3c | apply z03 | refine z1j rfl (fun _ => ?_) (fun _ => ?_) | refine z0j rfl ?_)) | (apply z3b; (first | (apply z1k; refine z2a mix (by kernel_rfl) ?_) | refine z2e rfl rfl (by decide) ?_ | refine z3g rfl (by first | exact rfl | exact ⟨_, rfl, rfl, rfl⟩) (by decide) ?_ | (apply z0x; (first | refine z05 (z19 (u := z5u y.2.1) hix rfl rfl rfl) (by first | exact rfl | exact ⟨_, rfl, rfl, rfl⟩) rfl rfl (by decide) ?_ | refine z05 (z19 (u := z2x y.2.2) hix rfl rfl rfl) (by first | exact rfl | exact ⟨_, rfl, rfl, rfl⟩) rfl rfl (by decide) ?_ | refine z05 (z0g rfl rfl rfl rfl) (by first | exact rfl | exact ⟨_, rfl, rfl, rfl⟩) rfl rfl (by decide) ?_)) | (apply z0w; (first | refine z05 (z04 rfl rfl) (by first | exact rfl | exact ⟨_, rfl, rfl, rfl⟩) rfl rfl (by decide) ?_ | refine z05 (z1s rfl rfl) (by first | exact rfl | exact ⟨_, rfl, rfl, rfl⟩) rfl rfl (by decide) ?_)) | (apply z1g; (refine z05 (z13 rfl (by omega) (by omega) rfl) (by first | exact rfl | exact ⟨_, rfl, rfl, rfl⟩) rfl rfl (by decide) ?_)) | (apply z2c; (first | refine z05 (z11 (z99 (by omega) (by omega))) (by first | exact rfl | exact ⟨_, rfl, rfl, rfl⟩) rfl rfl (by decide) ?_ | refine z05 (z29 (z1n (by omega) (by omega))) (by first | exact rfl | exact ⟨_, rfl, rfl, rfl⟩) rfl rfl (by decide) ?_)) | (refine z1t rfl rfl (fun hg => ?_) (fun hg => ?_) <;> simp only [hg] <;> (try simp only [decide_eq_true_eq, decide_eq_false_iff_not, Bool.not_eq_true', Bool.not_eq_false'] at hg)))))
           all_goals try (exfalso; omega)
           all_goals skip
           all_goals refine z2h 103 1003 rfl rfl ?_
           all_goals exact z0o ihj' rfl rfl
     · rw [z7v, if_neg hknown, z3x hknown] at ihj'
       rw [z3x hknown] at hln
       rw [if_neg hknown] at hget
       have hget1 : (z5h (z3m 0 ks2) e.2.2).getD (.lit (.int .i64 0)) = z2x 0 := by rw [hget]; rfl
       have hget2 : (z5h (z3m 0 ks2) e.2.2).isSome = false := by rw [hget]; rfl
       have hput := z8x hknown
       dsimp only [mpS] at ihj'
       rw [← hput] at ihj'
       rcases zgr arcs with rfl | ⟨m, y, rfl⟩
       · rw [ext_nil] at ihj'
         repeat' (first | (apply z0c; (first | refine z07 (z2g (et := 3) (a := e.2.2) (q := z3m 0 ks2) (z0 := Value.int .i64 0) (py := scP e.2.2) (by kernel_rfl) znp (z2l (by kernel_rfl)) rfl rfl rfl znn rfl hget1 hget2 (by decide)) ?_ | refine z0v rfl (by decide) ?_ | (apply z09; (first | refine z00 (z0g rfl rfl rfl rfl) rfl rfl (by decide) ?_ | refine z00 (z0q rfl rfl) rfl rfl (by decide) ?_ | refine z00 (z14 rfl rfl rfl rfl) rfl rfl (by decide) ?_)) | (apply z0h; (refine z00 (z04 rfl rfl) rfl rfl (by decide) ?_)) | (apply z0n; (refine z00 (z0i (ys := es.map sed) rfl (by omega) (idx he) rfl) rfl rfl (by decide) ?_)) | (apply z18; (refine z00 (z11 (z1n (by omega) (by omega))) rfl rfl (by decide) ?_)) | (apply z1a; (first | refine z00 (z1p rfl) rfl rfl (by decide) ?_ | refine z1u (g := scc) rfl rfl e.2.2 rfl rfl rfl rfl rfl rfl rfl (by decide) (by omega) ?_ | refine z1u (g := z2z) rfl rfl (e.1, e.2.1, ((ks2.length : Nat) : Int)) rfl rfl rfl rfl rfl rfl rfl (by decide) (by simp) ?_)) | (apply z0f; (refine z08 rfl rfl rfl rfl rfl rfl ?_)) | (apply z0l; (refine z07 (z0k rfl rfl (by decide)) ?_)) | (apply z0z; (refine z10 rfl rfl rfl rfl rfl rfl rfl (by decide) ?_)) | (apply z2j; (refine z2q rfl rfl rfl rfl rfl rfl rfl rfl (by decide) ?_)) | refine z4h (et := 3) (a := e.2.2) (v := z2x (ks2.length : Nat)) (py := scP e.2.2) (q := z3m 0 ks2) (by kernel_rfl) znp rfl rfl znn rfl rfl rfl ?_)) | (apply z0b; (first | refine z0u ?_ | apply z0a)) | (apply z0d; (first | apply z0e | apply z01 | refine z1d rfl ?_ | refine z0m rfl ?_ | apply z06 | apply z02 | apply z3c | apply z03 | refine z1j rfl (fun _ => ?_) (fun _ => ?_) | refine z0j rfl ?_)) | (apply z3b; (first | (apply z1k; refine z2a mix (by kernel_rfl) ?_) | refine z2e rfl rfl (by decide) ?_ | refine z3g rfl (by first | exact rfl | exact ⟨_, rfl, rfl, rfl⟩) (by decide) ?_ | (apply z0x; (refine z05 (z0g rfl rfl rfl rfl) (by first | exact rfl | exact ⟨_, rfl, rfl, rfl⟩) rfl rfl (by decide) ?_)) | (apply z0w; (refine z05 (z04 rfl rfl) (by first | exact rfl | exact ⟨_, rfl, rfl, rfl⟩) rfl rfl (by decide) ?_)))))
         all_goals try (exfalso; first | omega | (simp at *; done))
         all_goals refine z2h 61 1000 rfl rfl ?_
         all_goals refine z2h 103 1003 rfl rfl ?_
         all_goals exact z0o ihj' rfl rfl
       · have hy := j5 y (by simp)
         have hal : ((m ++ [y]).map z2z).length = m.length + 1 := by simp
         have hal2 : (m ++ [y]).length = m.length + 1 := by simp
         have hix : (m ++ [y])[(((((m ++ [y]).length : Nat) : Int) - 1)).toNat]? = some y := by
          rw [hal2, show (((m.length + 1 : Nat) : Int) - 1).toNat = m.length by omega]; simp
         have hse : (m ++ [y]).set (((((m ++ [y]).length : Nat) : Int) - 1)).toNat ((y.1, e.2.1, y.2.2) : Arc) = m ++ [(y.1, e.2.1, y.2.2)] := by
          rw [hal2, show (((m.length + 1 : Nat) : Int) - 1).toNat = m.length by omega]; simp
         rw [z3w] at ihj'
         by_cases hj : y.2.1 + 1 = e.1 ∧ y.2.2 = (ks2.length : Nat)
         · have hyq : (y.1, e.2.1, ((ks2.length : Nat) : Int)) = ((y.1, e.2.1, y.2.2) : Arc) := by rw [hj.2]
           rw [if_pos hj, hyq] at ihj'
           repeat' (first | (apply z0c; (first | refine z07 (z2g (et := 3) (a := e.2.2) (q := z3m 0 ks2) (z0 := Value.int .i64 0) (py := scP e.2.2) (by kernel_rfl) znp (z2l (by kernel_rfl)) rfl rfl rfl znn rfl hget1 hget2 (by decide)) ?_ | refine z0v rfl (by decide) ?_ | (apply z09; (first | refine z00 (z0g rfl rfl rfl rfl) rfl rfl (by decide) ?_ | refine z00 (z0q rfl rfl) rfl rfl (by decide) ?_ | refine z00 (z14 rfl rfl rfl rfl) rfl rfl (by decide) ?_)) | (apply z0h; (first | refine z00 (z04 rfl rfl) rfl rfl (by decide) ?_ | refine z00 (z1s rfl rfl) rfl rfl (by decide) ?_)) | (apply z0n; (first | refine z00 (z0i (ys := es.map sed) rfl (by omega) (idx he) rfl) rfl rfl (by decide) ?_ | refine z00 (z13 rfl (by omega) (by omega) rfl) rfl rfl (by decide) ?_)) | (apply z18; (first | refine z00 (z11 (z1n (by omega) (by omega))) rfl rfl (by decide) ?_ | refine z00 (z29 (z1n (by omega) (by omega))) rfl rfl (by decide) ?_)) | (apply z1a; (first | refine z00 (z1p rfl) rfl rfl (by decide) ?_ | refine z1u (g := scc) rfl rfl e.2.2 rfl rfl rfl rfl rfl rfl rfl (by decide) (by omega) ?_ | refine z1u (g := z2z) rfl rfl (e.1, e.2.1, ((ks2.length : Nat) : Int)) rfl rfl rfl rfl rfl rfl rfl (by decide) (by omega) ?_)) | (apply z0f; (first | refine z1v ((y.1, e.2.1, y.2.2) : Arc) rfl rfl rfl rfl hix rfl rfl rfl hse ?_ | refine z08 rfl rfl rfl rfl rfl rfl ?_)) | (apply z0l; (refine z07 (z0k rfl rfl (by decide)) ?_)) | (apply z0z; (refine z10 rfl rfl rfl rfl rfl rfl rfl (by decide) ?_)) | (apply z2j; (refine z2q rfl rfl rfl rfl rfl rfl rfl rfl (by decide) ?_)) | refine z4h (et := 3) (a := e.2.2) (v := z2x (ks2.length : Nat)) (py := scP e.2.2) (q := z3m 0 ks2) (by kernel_rfl) znp rfl rfl znn rfl rfl rfl ?_)) | (apply z0b; (first | refine z0u ?_ | apply z0a)) | (apply z0d; (first | apply z0e | apply z01 | refine z1d rfl ?_ | refine z0m rfl ?_ | apply z06 | apply z02 | apply z3c | apply z03 | refine z1j rfl (fun _ => ?_) (fun _ => ?_) | refine z0j rfl ?_)) | (apply z3b; (first | (apply z1k; refine z2a mix (by kernel_rfl) ?_) | refine z2e rfl rfl (by decide) ?_ | refine z3g rfl (by first | exact rfl | exact ⟨_, rfl, rfl, rfl⟩) (by decide) ?_ | (apply z0x; (first | refine z05 (z19 (u := z5u y.2.1) hix rfl rfl rfl) (by first | exact rfl | exact ⟨_, rfl, rfl, rfl⟩) rfl rfl (by decide) ?_ | refine z05 (z19 (u := z2x y.2.2) hix rfl rfl rfl) (by first | exact rfl | exact ⟨_, rfl, rfl, rfl⟩) rfl rfl (by decide) ?_ | refine z05 (z0g rfl rfl rfl rfl) (by first | exact rfl | exact ⟨_, rfl, rfl, rfl⟩) rfl rfl (by decide) ?_)) | (apply z0w; (first | refine z05 (z04 rfl rfl) (by first | exact rfl | exact ⟨_, rfl, rfl, rfl⟩) rfl rfl (by decide) ?_ | refine z05 (z1s rfl rfl) (by first | exact rfl | exact ⟨_, rfl, rfl, rfl⟩) rfl rfl (by decide) ?_)) | (apply z1g; (refine z05 (z13 rfl (by omega) (by omega) rfl) (by first | exact rfl | exact ⟨_, rfl, rfl, rfl⟩) rfl rfl (by decide) ?_)) | (apply z2c; (first | refine z05 (z11 (z99 (by omega) (by omega))) (by first | exact rfl | exact ⟨_, rfl, rfl, rfl⟩) rfl rfl (by decide) ?_ | refine z05 (z29 (z1n (by omega) (by omega))) (by first | exact rfl | exact ⟨_, rfl, rfl, rfl⟩) rfl rfl (by decide) ?_)) | (refine z1t rfl rfl (fun hg => ?_) (fun hg => ?_) <;> simp only [hg] <;> (try simp only [decide_eq_true_eq, decide_eq_false_iff_not, Bool.not_eq_true', Bool.not_eq_false'] at hg)))))
           all_goals try (exfalso; omega)
           all_goals refine z2h 61 1000 rfl rfl ?_
           all_goals exact z0o ihj' rfl rfl
         · rw [if_neg hj] at ihj'
           repeat' (first | (apply z0c; (first | refine z07 (z2g (et := 3) (a := e.2.2) (q := z3m 0 ks2) (z0 := Value.int .i64 0) (py := scP e.2.2) (by kernel_rfl) znp (z2l (by kernel_rfl)) rfl rfl rfl znn rfl hget1 hget2 (by decide)) ?_ | refine z0v rfl (by decide) ?_ | (apply z09; (first | refine z00 (z0g rfl rfl rfl rfl) rfl rfl (by decide) ?_ | refine z00 (z0q rfl rfl) rfl rfl (by decide) ?_ | refine z00 (z14 rfl rfl rfl rfl) rfl rfl (by decide) ?_)) | (apply z0h; (first | refine z00 (z04 rfl rfl) rfl rfl (by decide) ?_ | refine z00 (z1s rfl rfl) rfl rfl (by decide) ?_)) | (apply z0n; (first | refine z00 (z0i (ys := es.map sed) rfl (by omega) (idx he) rfl) rfl rfl (by decide) ?_ | refine z00 (z13 rfl (by omega) (by omega) rfl) rfl rfl (by decide) ?_)) | (apply z18; (first | refine z00 (z11 (z1n (by omega) (by omega))) rfl rfl (by decide) ?_ | refine z00 (z29 (z1n (by omega) (by omega))) rfl rfl (by decide) ?_)) | (apply z1a; (first | refine z00 (z1p rfl) rfl rfl (by decide) ?_ | refine z1u (g := scc) rfl rfl e.2.2 rfl rfl rfl rfl rfl rfl rfl (by decide) (by omega) ?_ | refine z1u (g := z2z) rfl rfl (e.1, e.2.1, ((ks2.length : Nat) : Int)) rfl rfl rfl rfl rfl rfl rfl (by decide) (by omega) ?_)) | (apply z0f; (first | refine z1v ((y.1, e.2.1, y.2.2) : Arc) rfl rfl rfl rfl hix rfl rfl rfl hse ?_ | refine z08 rfl rfl rfl rfl rfl rfl ?_)) | (apply z0l; (refine z07 (z0k rfl rfl (by decide)) ?_)) | (apply z0z; (refine z10 rfl rfl rfl rfl rfl rfl rfl (by decide) ?_)) | (apply z2j; (refine z2q rfl rfl rfl rfl rfl rfl rfl rfl (by decide) ?_)) | refine z4h (et := 3) (a := e.2.2) (v := z2x (ks2.length : Nat)) (py := scP e.2.2) (q := z3m 0 ks2) (by kernel_rfl) znp rfl rfl znn rfl rfl rfl ?_)) | (apply z0b; (first | refine z0u ?_ | apply z0a)) | (apply z0d; (first | apply z0e | apply z01 | refine z1d rfl ?_ | refine z0m rfl ?_ | apply z06 | apply z02 | apply z3c | apply z03 | refine z1j rfl (fun _ => ?_) (fun _ => ?_) | refine z0j rfl ?_)) | (apply z3b; (first | (apply z1k; refine z2a mix (by kernel_rfl) ?_) | refine z2e rfl rfl (by decide) ?_ | refine z3g rfl (by first | exact rfl | exact ⟨_, rfl, rfl, rfl⟩) (by decide) ?_ | (apply z0x; (first | refine z05 (z19 (u := z5u y.2.1) hix rfl rfl rfl) (by first | exact rfl | exact ⟨_, rfl, rfl, rfl⟩) rfl rfl (by decide) ?_ | refine z05 (z19 (u := z2x y.2.2) hix rfl rfl rfl) (by first | exact rfl | exact ⟨_, rfl, rfl, rfl⟩) rfl rfl (by decide) ?_ | refine z05 (z0g rfl rfl rfl rfl) (by first | exact rfl | exact ⟨_, rfl, rfl, rfl⟩) rfl rfl (by decide) ?_)) | (apply z0w; (first | refine z05 (z04 rfl rfl) (by first | exact rfl | exact ⟨_, rfl, rfl, rfl⟩) rfl rfl (by decide) ?_ | refine z05 (z1s rfl rfl) (by first | exact rfl | exact ⟨_, rfl, rfl, rfl⟩) rfl rfl (by decide) ?_)) | (apply z1g; (refine z05 (z13 rfl (by omega) (by omega) rfl) (by first | exact rfl | exact ⟨_, rfl, rfl, rfl⟩) rfl rfl (by decide) ?_)) | (apply z2c; (first | refine z05 (z11 (z99 (by omega) (by omega))) (by first | exact rfl | exact ⟨_, rfl, rfl, rfl⟩) rfl rfl (by decide) ?_ | refine z05 (z29 (z1n (by omega) (by omega))) (by first | exact rfl | exact ⟨_, rfl, rfl, rfl⟩) rfl rfl (by decide) ?_)) | (refine z1t rfl rfl (fun hg => ?_) (fun hg => ?_) <;> simp only [hg] <;> (try simp only [decide_eq_true_eq, decide_eq_false_iff_not, Bool.not_eq_true', Bool.not_eq_false'] at hg)))))
           all_goals try (exfalso; omega)
           all_goals refine z2h 61 1000 rfl rfl ?_
           all_goals refine z2h 103 1003 rfl rfl ?_
           all_goals exact z0o ihj' rfl rfl
   · obtain rfl : j = es.length := by omega
     rw [List.drop_length, List.foldl_nil] at j6
     rw [← j6] at i6
     simp only at i6
     have hi2 := (List.getElem?_eq_some_iff.1 j4).1
     refine z1z 1003 rfl ?_
     by_cases hlim : lim.toNat < ks2.length
     · rw [if_pos hlim] at i6
       rw [← i6]
       repeat' (first | (apply z0c; (first | refine z0v rfl (by decide) ?_ | (apply z1a; (refine z00 (z1p rfl) rfl rfl (by decide) ?_)) | (apply z0f; (refine z08 rfl rfl rfl rfl rfl rfl ?_)) | (apply z0z; (refine z10 rfl rfl rfl rfl rfl rfl rfl (by decide) ?_)))) | (apply z0b; (first | refine z0u ?_ | apply z0a)) | (apply z0d; (first | apply z0e | apply z01 | apply z06 | apply z02 | apply z3c | refine z1j rfl (fun _ => ?_) (fun _ => ?_) | refine z0j rfl ?_)) | (apply z3b; (first | refine z3g rfl (by first | exact rfl | exact ⟨_, rfl, rfl, rfl⟩) (by decide) ?_ | (apply z0x; (refine z05 (z0g rfl rfl rfl rfl) (by first | exact rfl | exact ⟨_, rfl, rfl, rfl⟩) rfl rfl (by decide) ?_)) | (apply z0w; (refine z05 (z04 rfl rfl) (by first | exact rfl | exact ⟨_, rfl, rfl, rfl⟩) rfl rfl (by decide) ?_)))))
       all_goals try (exfalso; omega)
       all_goals exact z0r Tryz.func63 _ (z1b rfl rfl rfl rfl rfl rfl rfl) ⟨rfl, rfl⟩
     · rw [if_neg hlim] at i6
       have ih' := ih (i + 1, ks2, ⟨F ++ [fb], A ++ [arcs]⟩) ⟨by simp only; omega, by simp only; omega, by simp only; omega, by simp [i4], by simp [i5], j7, by rw [← i6]; simp only; rw [show lim.toNat + 1 - (i + 1) = n by omega]⟩ (by simp only; omega)
       simp only at ih'
       repeat' (first | (apply z0c; (first | refine z0v rfl (by decide) ?_ | (apply z09; (refine z00 (z0g rfl rfl rfl rfl) rfl rfl (by decide) ?_)) | (apply z0h; (refine z00 (z04 rfl rfl) rfl rfl (by decide) ?_)) | (apply z18; (refine z00 (z11 (z1n (by omega) (by omega))) rfl rfl (by decide) ?_)) | (apply z1a; (first | refine z00 (z1p rfl) rfl rfl (by decide) ?_ | refine z1u (g := z5x) rfl rfl arcs rfl rfl rfl rfl rfl rfl rfl (by decide) (by omega) ?_)) | (apply z0f; (refine z08 rfl rfl rfl rfl rfl rfl ?_)) | (apply z0z; (refine z10 rfl rfl rfl rfl rfl rfl rfl (by decide) ?_)) | (apply z2j; (refine z2q rfl rfl rfl rfl rfl rfl rfl rfl (by decide) ?_)))) | (apply z0b; (first | refine z0u ?_ | apply z0a)) | (apply z0d; (first | apply z0e | apply z01 | apply z06 | apply z02 | apply z3c | apply z03 | refine z1j rfl (fun _ => ?_) (fun _ => ?_) | refine z0j rfl ?_)) | (apply z3b; (first | (apply z1k; refine z2a mix (by kernel_rfl) ?_) | refine z3g rfl (by first | exact rfl | exact ⟨_, rfl, rfl, rfl⟩) (by decide) ?_ | (apply z0x; (first | refine z05 (z8f j4 rfl rfl) (by first | exact rfl | exact ⟨_, rfl, rfl, rfl⟩) rfl rfl (by decide) ?_ | refine z05 (z0g rfl rfl rfl rfl) (by first | exact rfl | exact ⟨_, rfl, rfl, rfl⟩) rfl rfl (by decide) ?_)) | (apply z0w; (refine z05 (z04 rfl rfl) (by first | exact rfl | exact ⟨_, rfl, rfl, rfl⟩) rfl rfl (by decide) ?_)) | (apply z1g; (refine z05 (z13 rfl (by omega) (by simp only [List.length_map]; omega) rfl) (by first | exact rfl | exact ⟨_, rfl, rfl, rfl⟩) rfl rfl (by decide) ?_)) | (apply z6m; (refine za7 (g := boc) (by first | exact rfl | exact ⟨_, rfl, rfl, rfl⟩) rfl rfl fb rfl rfl rfl rfl rfl rfl rfl (by decide) (by omega) ?_)) | (apply z3k; (refine zpk (first := []) (cap := [.ptr (1, 4) 0]) (ps := [scP k]) hff (by first | exact rfl | exact ⟨_, rfl, rfl, rfl⟩) rfl rfl (hb _ _ _) (by decide) ?_)) | (apply z3i; (refine zaq (by first | exact rfl | exact ⟨_, rfl, rfl, rfl⟩) rfl rfl rfl rfl rfl ?_)) | (apply z8n; (refine zdh (by first | exact rfl | exact ⟨_, rfl, rfl, rfl⟩) rfl rfl rfl rfl rfl rfl rfl rfl (by decide) ?_)))))
       all_goals try (exfalso; omega)
       all_goals refine z2h 119 1001 rfl rfl ?_
       all_goals refine z2h 125 1002 rfl rfl ?_
       all_goals exact z0o ih' rfl rfl
 · obtain rfl : i = ks.length := by omega
   obtain ⟨n, hn⟩ : ∃ n, lim.toNat + 1 - ks.length = n + 1 := ⟨lim.toNat - ks.length, by omega⟩
   rw [hn, exL, List.getElem?_eq_none (Nat.le_refl _)] at i6
   simp only at i6
   rw [← i6]
   refine z1z 1001 rfl ?_
   refine z1z 1002 rfl ?_
   repeat' (first | (apply z0c; (first | refine z0v rfl (by decide) ?_ | (apply z09; (refine z00 (z14 rfl rfl rfl rfl) rfl rfl (by decide) ?_)) | (apply z1a; (refine z00 (z1p rfl) rfl rfl (by decide) ?_)) | (apply z0f; (refine z08 rfl rfl rfl rfl rfl rfl ?_)))) | (apply z0b; (first | refine z0u ?_ | apply z0a)) | (apply z0d; (first | apply z0e | apply z01 | apply z06 | apply z02 | refine z1j rfl (fun _ => ?_) (fun _ => ?_) | refine z0j rfl ?_)))
   all_goals try (exfalso; omega)
   all_goals exact z0r Tryz.func63 _ (z1b rfl rfl rfl rfl rfl rfl rfl) ⟨rfl, rfl⟩
end Go.Proofs.YthdfkabdoidjfaaGreatDoor
namespace Go.Proofs.YthdfkabdoidjfaaGreatDoor
open Go.Ab Go.Ax Go.Rx
set_option maxHeartbeats 20000000
set_option maxRecDepth 100000
attribute [local irreducible] Run Ops Op1 z2f Val Tr z1f z2d NF Rel z47 z48
section
variable (lv : List (List Rg)) (f l : Nat) (fo : List Nat) (nu : Bool)
abbrev bsC : List (Nm × Blk) := [((1, 4), .box [.ptr (0, 14) 0]), ((1, 14), tbx lv f l fo nu)]
theorem zt8 (k : Bool × Nat) (hk : k.2 < 2 ^ 64) (hl : l < 2 ^ 64) : z2d Tryz.prog 58 [scP k, .ptr (1, 4) 0] (bsC lv f l fo nu) [] (B ((k.1 && nu) || decide (k.2 &&& l ≠ 0))) := by
 refine z2p fun H hH => ?_
 have h4 : H 1 4 = some (.box [.ptr (0, 14) 0]) := hH ((1, 4), .box [.ptr (0, 14) 0]) (by simp)
 have h14 : H 1 14 = some (tbx lv f l fo nu) := hH ((1, 14), tbx lv f l fo nu) (by simp)
 obtain ⟨b, S⟩ := k
 have hfin : (!decide (ztw .u64 (S : Nat) (l : Nat) = 0)) = decide (S &&& l ≠ 0) := by
  rw [zvf hk hl, ← decide_not]
  exact decide_eq_decide.2 (by rw [Ne, not_congr]; exact_mod_cast Iff.rfl)
 simp only [← hfin]
 refine z0t Tryz.func58 (by kernel_rfl) rfl (by simp) ?_
 dsimp only [Tryz.f58]
 cases b <;> cases nu
 all_goals repeat' (first | (apply z0c; (first | refine z0v rfl (by decide) ?_ | (apply z2b; (refine z07 (z2k rfl rfl rfl rfl rfl (by decide)) ?_)))) | (apply z0b; (first | refine z0u ?_ | apply z0a)) | (apply z0d; (first | apply z0e | apply z01 | apply z3c)) | (apply z3b; (first | (apply z1k; refine z2a mix (by kernel_rfl) ?_) | refine z2e rfl rfl (by decide) ?_ | refine z3g rfl (by first | exact rfl | exact ⟨_, rfl, rfl, rfl⟩) (by decide) ?_ | (apply z0x; (first | refine z9b (by first | exact rfl | exact ⟨_, rfl, rfl, rfl⟩) rfl h14 rfl rfl rfl rfl (by decide) ?_ | refine z9b (by first | exact rfl | exact ⟨_, rfl, rfl, rfl⟩) rfl h4 rfl rfl rfl rfl (by decide) ?_ | refine z05 (z0g rfl rfl rfl rfl) (by first | exact rfl | exact ⟨_, rfl, rfl, rfl⟩) rfl rfl (by decide) ?_)) | (apply z0w; (refine z05 (z04 rfl rfl) (by first | exact rfl | exact ⟨_, rfl, rfl, rfl⟩) rfl rfl (by decide) ?_)) | (apply z2c; (refine z05 z7u (by first | exact rfl | exact ⟨_, rfl, rfl, rfl⟩) rfl rfl (by decide) ?_)))))
 all_goals exact z0r Tryz.func58 _ (z0p rfl rfl) ⟨rfl, rfl⟩
/-- the leaves of a set, with their ranges -/
def z8v (N : Nat) : Nat → List (List Rg) → List (List Rg)
 | _, [] => []
 | k, r :: ls => if N.testBit k = true then r :: z8v N (k + 1) ls else z8v N (k + 1) ls
theorem zlr (N : Nat) {lv : List (List Rg)} {k : Nat} {r : List Rg} (hr : lv[k]? = some r) : z8v N k (lv.drop k) = (if N.testBit k = true then [r] else []) ++ z8v N (k + 1) (lv.drop (k + 1)) := by
 obtain ⟨h1, h2⟩ := List.getElem?_eq_some_iff.1 hr
 rw [List.drop_eq_getElem_cons h1, h2, z8v]
 split <;> simp
theorem z8w (N : Nat) : ∀ (lv : List (List Rg)) (k : Nat), ∀ r ∈ z8v N k lv, r ∈ lv
 | [], _, r, h => by simp [z8v] at h
 | x :: ls, k, r, h => by
  rw [z8v] at h
  split at h
  · rcases List.mem_cons.1 h with rfl | h
    · simp
    · exact List.mem_cons_of_mem _ (z8w N ls _ r h)
  · exact List.mem_cons_of_mem _ (z8w N ls _ r h)
theorem ziu (N : Nat) : ∀ (lv : List (List Rg)) (k : Nat), (z8v N k lv).length ≤ lv.length
 | [], _ => by simp [z8v]
 | x :: ls, k => by
  have := ziu N ls (k + 1)
  rw [z8v]; split <;> simp <;> omega
def nxN (f : Nat) (fo : List Nat) (k : Bool × Nat) : Nat := if k.1 = true then f else nxF k.2 0 0 fo
def zto (N : Nat) (lv : List (List Rg)) (c : Int) : Nat := rdF (fun c l => inR l c) c N 0 0 lv
/-- an edge of a set -/
def cE (N : Nat) (lv : List (List Rg)) (pts : List Int) (i : Nat) : Option (Go.Ax.Edge (Bool × Nat)) :=
 if zto N lv (pts.getD i 0) = 0 then none else some (pts.getD i 0, pts.getD (i + 1) 0 - 1, (false, zto N lv (pts.getD i 0)))
def zec (N : Nat) (lv : List (List Rg)) : List Int := z83 (z8v N 0 lv)
def zc7 (N : Nat) (lv : List (List Rg)) : List (Go.Ax.Edge (Bool × Nat)) := (List.range ((zec N lv).length - 1)).filterMap (cE N lv (zec N lv))
theorem zs3 {M : Nat} (hS : zb7 M) (hM : M ≤ 200000000) (k : Bool × Nat) (hk : k.2 < 2 ^ 64) (hf : f < 2 ^ 64) (hfo : fo.length = lv.length) (hl64 : lv.length ≤ 64) (hfx : ∀ x ∈ fo, x < 2 ^ 64) (hlr : ∀ r ∈ lv, ∀ x ∈ r, 0 ≤ x.1 ∧ x.1 ≤ 1114111 ∧ 0 ≤ x.2 ∧ x.2 ≤ 1114111) (hln : ∀ r ∈ lv, r.length ≤ 200000000)
  (hsz : ∀ N : Nat, (z5v (z8v N 0 lv)).length ≤ M) :
  z2d Tryz.prog 59 [scP k, .ptr (1, 4) 0] (bsC lv f l fo nu) [] (.d (.slice ((zc7 (nxN f fo k) lv).map sed))) := by
 refine z2p fun H hH => ?_
 have h4 : H 1 4 = some (.box [.ptr (0, 14) 0]) := hH ((1, 4), .box [.ptr (0, 14) 0]) (by simp)
 have h14 : H 1 14 = some (tbx lv f l fo nu) := hH ((1, 14), tbx lv f l fo nu) (by simp)
 obtain ⟨b, S⟩ := k
 have hnx := zpf (X := 14) lv f l fo nu S hk (by omega) hfx b 2
 change z2d Tryz.prog 60 [.ptr (2, 14) 0, I .u64 (S : Nat), B b] [((2, 14), tbx lv f l fo nu)] [] (I .u64 ((nxN f fo (b, S) : Nat) : Int)) at hnx
 have hNl : nxN f fo (b, S) < 2 ^ 64 := by
  rw [nxN]
  split
  · exact hf
  · exact zqq S fo 0 0 (by decide) hfx
 generalize nxN f fo (b, S) = N at *
 have hrr : ∀ r ∈ z8v N 0 lv, ∀ x ∈ r, 0 ≤ x.1 ∧ x.1 ≤ 1114111 ∧ 0 ≤ x.2 ∧ x.2 ≤ 1114111 := fun r hr => hlr r (z8w N lv 0 r hr)
 have hal := ziu N lv 0
 have hcuts := zqo hS (z8v N 0 lv) (hsz N) hM hrr (by omega) (fun r hr => hln r (z8w N lv 0 r hr))
 have hpr := zay hrr
 have hpl := zic (z8v N 0 lv)
 have hpl2 : (z83 (z8v N 0 lv)).length ≤ 200000000 := by have := zk9 (Go.Ax.srt (z5v (z8v N 0 lv))); rw [Go.Ax.zgs] at this; have := hsz N; rw [z83]; omega
 have hEq : zc7 N lv = (List.range ((zec N lv).length - 1)).filterMap (cE N lv (zec N lv)) := rfl
 rw [hEq]
 change z1f Tryz.prog 61 [.d (lvs (z8v N 0 lv))] (.d (.slice ((zec N lv).map rcc))) at hcuts
 change ∀ z ∈ zec N lv, 0 ≤ z ∧ z ≤ 1114112 at hpr
 change 1 ≤ (zec N lv).length at hpl
 change (zec N lv).length ≤ 200000000 at hpl2
 generalize zec N lv = pts at *
 clear hEq
 refine z0t Tryz.func59 (by kernel_rfl) rfl (by simp) ?_
 dsimp only [Tryz.f59]
 repeat' (first | (apply z0c; (first | refine z0v rfl (by decide) ?_ | (apply z09; (first | refine z3h rfl h14 rfl rfl rfl rfl (by decide) ?_ | refine z3h rfl h4 rfl rfl rfl rfl (by decide) ?_ | refine z00 (z0g rfl rfl rfl rfl) rfl rfl (by decide) ?_)) | (apply z0h; (refine z00 (z04 rfl rfl) rfl rfl (by decide) ?_)) | (apply z1a; (refine z00 (z1r rfl) rfl rfl (by decide) ?_)) | (apply z16; (refine z3q hnx rfl (bkN h14) (by decide) ?_)) | (apply z2b; (refine z07 (z2k rfl rfl rfl rfl rfl (by decide)) ?_)))) | (apply z0b; (first | refine z0u ?_ | apply z0a)) | (apply z0d; (first | apply z0e | apply z01 | apply z02)))
 all_goals try (exfalso; omega)
 refine z2o 5 1001 41 1 rfl rfl rfl ?_
 refine z1q ?_
 refine z0o (z2r (fun q : Nat × List (List Rg) => ⟨99, [(1, .ptr (2, 4) 0), (2, .ptr (0, 2) 0), (3, .d (.lit z3s)), (4, I .u64 (N : Nat)), (5, .ref (0, 1001)), (23, .d (lvs lv)), (24, I .i64 lv.length), (25, I .i64 (q.1 : Nat))], [(1001, .row 41 1 (q.2.map fun r => [rgs r]))], H⟩) (fun q => q.1 ≤ lv.length ∧ q.2.length ≤ q.1 ∧ q.2 ++ z8v N q.1 (lv.drop q.1) = z8v N 0 lv) (fun q => lv.length - q.1) ?_ (0, []) ⟨Nat.zero_le _, Nat.le_refl _, rfl⟩) rfl rfl
 rintro ⟨i, acc⟩ ⟨i1, i2, i3⟩ ih
 simp only at i1 i2 i3 ih ⊢
 by_cases hlt : i < lv.length
 · obtain ⟨r, hr⟩ : ∃ r, lv[i]? = some r := ⟨_, List.getElem?_eq_getElem hlt⟩
   have hbt := zow (S := N) (i := i) hNl (by omega)
   rw [zlr N hr] at i3
   by_cases htb : N.testBit i = true
   · rw [if_pos htb] at hbt i3
     have ih' := ih (i + 1, acc ++ [r]) ⟨by simp only; omega, by simp; omega, by simp only; rw [← i3, List.append_assoc]⟩ (by simp only; omega)
     repeat' (first | (apply z0c; (first | refine z0v rfl (by decide) ?_ | (apply z09; (refine z00 (z1i rfl rfl rfl) rfl rfl (by decide) ?_)) | (apply z0n; (refine z00 (z0i (ys := lv.map fun r => [rgs r]) rfl (by omega) (idx (g := fun r => [rgs r]) hr) rfl) rfl rfl (by decide) ?_)) | (apply z18; (first | refine z00 (zbi (by omega)) rfl rfl (by decide) ?_ | refine z00 z7u rfl rfl (by decide) ?_ | refine z00 (z11 (z1n (by omega) (by omega))) rfl rfl (by decide) ?_)) | (apply z1a; (refine z1u (g := fun r : List Rg => [rgs r]) rfl rfl r rfl rfl rfl rfl rfl rfl rfl (by decide) (by omega) ?_)) | (apply z2j; (refine z2q rfl rfl rfl rfl rfl rfl rfl rfl (by decide) ?_)))) | (apply z0b; (first | refine z0u ?_ | apply z0a)) | (apply z0d; (first | apply z0e | apply z01 | apply z06 | apply z02 | apply z03 | refine z1j rfl (fun _ => ?_) (fun _ => ?_) | refine z0j rfl ?_)))
     all_goals try (exfalso; omega)
     all_goals refine z2h 38 1001 rfl rfl ?_
     all_goals exact z0o ih' rfl rfl
   · rw [if_neg htb] at hbt i3
     have ih' := ih (i + 1, acc) ⟨by simp only; omega, by simp only; omega, by simp only; rw [← i3, List.nil_append]⟩ (by simp only; omega)
     repeat' (first | (apply z0c; (first | refine z0v rfl (by decide) ?_ | (apply z09; (refine z00 (z1i rfl rfl rfl) rfl rfl (by decide) ?_)) | (apply z0n; (refine z00 (z0i (ys := lv.map fun r => [rgs r]) rfl (by omega) (idx (g := fun r => [rgs r]) hr) rfl) rfl rfl (by decide) ?_)) | (apply z18; (first | refine z00 (zbi (by omega)) rfl rfl (by decide) ?_ | refine z00 z7u rfl rfl (by decide) ?_ | refine z00 (z11 (z1n (by omega) (by omega))) rfl rfl (by decide) ?_)) | (apply z1a; (refine z1u rfl rfl _ rfl rfl rfl rfl rfl rfl rfl (by decide) (by omega) ?_)) | (apply z2j; (refine z2q rfl rfl rfl rfl rfl rfl rfl rfl (by decide) ?_)))) | (apply z0b; (first | refine z0u ?_ | apply z0a)) | (apply z0d; (first | apply z0e | apply z01 | apply z06 | apply z02 | apply z03 | refine z1j rfl (fun _ => ?_) (fun _ => ?_) | refine z0j rfl ?_)))
     all_goals try (exfalso; omega)
     all_goals exact z0o ih' rfl rfl
 · obtain rfl : i = lv.length := by omega
   rw [List.drop_length, z8v, List.append_nil] at i3
   subst i3
   clear ih
   refine z1z 1001 rfl ?_
   repeat' (first | (apply z0c; (first | refine z0v rfl (by decide) ?_ | (apply z18; (refine z00 (z29 (z1n (by omega) (by omega))) rfl rfl (by decide) ?_)) | (apply z1a; (refine z00 (z1r rfl) rfl rfl (by decide) ?_)) | (apply z16; (refine z3l hcuts rfl (by decide) ?_)))) | (apply z0b; (first | refine z0u ?_ | apply z0a)) | (apply z0d; (first | apply z0e | apply z01 | apply z06 | apply z02 | refine z1j rfl (fun _ => ?_) (fun _ => ?_) | refine z0j rfl ?_)))
   all_goals try (exfalso; omega)
   refine z2o 8 1002 89 4 rfl rfl rfl ?_
   refine z1q ?_
   refine z0o (z2r (fun q : Nat => ⟨99, [(1, .ptr (2, 4) 0), (3, .d (.lit z3s)), (4, I .u64 (N : Nat)), (8, .ref (0, 1002)), (9, .d (.slice (pts.map rcc))), (44, I .i64 ((pts.length : Int) - 1)), (45, I .i64 (q : Nat))], [(1002, .row 89 4 (((List.range q).filterMap (cE N lv pts)).map sed))], H⟩) (fun q => q ≤ pts.length - 1) (fun q => pts.length - 1 - q) ?_ 0 (Nat.zero_le _)) rfl rfl
   intro i hi ih
   by_cases hlt2 : i < pts.length - 1
   · obtain ⟨x, hx⟩ : ∃ x, pts[i]? = some x := ⟨_, List.getElem?_eq_getElem (by omega)⟩
     obtain ⟨y, hy⟩ : ∃ y, pts[i + 1]? = some y := ⟨_, List.getElem?_eq_getElem (by omega)⟩
     have hyi : pts[(((i : Nat) : Int) + 1).toNat]? = some y := by rw [show (((i : Nat) : Int) + 1).toNat = i + 1 by omega]; exact hy
     have hxr := hpr x (List.mem_of_getElem? hx)
     have hyr := hpr y (List.mem_of_getElem? hy)
     have hfl := z4u (cE N lv pts) (List.range i)
     rw [List.length_range] at hfl
     have ih' := ih (i + 1) (by omega) (by omega)
     have hstep : (List.range (i + 1)).filterMap (cE N lv pts) = (List.range i).filterMap (cE N lv pts) ++ (cE N lv pts i).toList := by
      rw [List.range_succ, List.filterMap_append]; simp [List.filterMap_cons]; cases cE N lv pts i <;> rfl
     rw [hstep, cE, z3u hx, z3u hy] at ih'
     clear ih hstep
     generalize (List.range i).filterMap (cE N lv pts) = out at *
     obtain ⟨m, hm⟩ : ∃ m, zto N lv x = m := ⟨_, rfl⟩
     have hml : m < 2 ^ 64 := by rw [← hm]; exact zr5 _ _ _ hl64 (by decide)
     rw [hm] at ih'
     rw [zto] at hm
     repeat' (first | (apply z0c; (first | refine z0v rfl (by decide) ?_ | (apply z09; (first | refine z3h rfl h14 rfl rfl rfl rfl (by decide) ?_ | refine z3h rfl h4 rfl rfl rfl rfl (by decide) ?_)) | (apply z0h; (refine z00 (z04 rfl rfl) rfl rfl (by decide) ?_)) | (apply z1a; (refine z00 (z1r rfl) rfl rfl (by decide) ?_)) | (apply z0f; (refine z08 rfl rfl rfl rfl rfl rfl ?_)) | (apply z0l; (refine z07 (z0k rfl rfl (by decide)) ?_)) | (apply z0z; (refine z10 rfl rfl rfl rfl rfl rfl rfl (by decide) ?_)))) | (apply z0b; (first | refine z0u ?_ | apply z0a)) | (apply z0d; (first | apply z0e | apply z01 | apply z06 | apply z02 | refine z1j rfl (fun _ => ?_) (fun _ => ?_) | refine z0j rfl ?_)))
     all_goals try (exfalso; first | omega | (simp at *; done))
     refine z1q ?_
     refine z0o (z2r (fun q : Nat × Nat => ⟨99, [(1, .ptr (2, 4) 0), (3, .d (.lit z3s)), (4, I .u64 (N : Nat)), (8, .ref (0, 1002)), (9, .d (.slice (pts.map rcc))), (10, I .i64 (i : Nat)), (11, .ptr (0, 11) 0), (44, I .i64 ((pts.length : Int) - 1)), (45, I .i64 (i : Nat)), (52, .d (lvs lv)), (53, I .i64 lv.length), (54, I .i64 (q.1 : Nat))], [(1002, .row 89 4 (out.map sed)), (11, .box [B false, I .u64 (q.2 : Nat)])], H⟩) (fun q => q.1 ≤ lv.length ∧ q.2 < 2 ^ 64 ∧ rdF (fun c l => inR l c) x N q.1 q.2 (lv.drop q.1) = m) (fun q => lv.length - q.1) ?_ (0, 0) ⟨Nat.zero_le _, by decide, hm⟩) rfl rfl
     rintro ⟨k, B'⟩ ⟨n1, n2, n3⟩ ihn
     simp only at n1 n2 n3 ihn ⊢
     by_cases hk2 : k < lv.length
     · obtain ⟨r, hr⟩ : ∃ r, lv[k]? = some r := ⟨_, List.getElem?_eq_getElem hk2⟩
       have hcl := zga r (by have := hln r (List.mem_of_getElem? hr); omega) x
       rw [zp6 _ _ _ hr] at n3
       have hbt := zow (S := N) (i := k) hNl (by omega)
       have hsh := zux (i := k) (by omega)
       have hp2 : 2 ^ k < 2 ^ 64 := Nat.pow_lt_pow_right (by decide) (by omega)
       have hor := zsv n2 hp2
       rw [← hsh] at hor
       rw [zrh] at hcl
       by_cases htb : N.testBit k = true
       · rw [if_pos htb] at hbt
         cases hin : inR r x with
         | true =>
          rw [if_pos ⟨htb, hin⟩] at n3
          rw [hin] at hcl
          have ihn' := ihn (k + 1, B' ||| 2 ^ k) ⟨by simp only; omega, Nat.or_lt_two_pow n2 hp2, n3⟩ (by simp only; omega)
          dsimp only at ihn'
          rw [← hor] at ihn'
          repeat' (first | (apply z0c; (first | refine z0v rfl (by decide) ?_ | (apply z09; (first | refine z00 (z0g rfl rfl rfl rfl) rfl rfl (by decide) ?_ | refine z00 (z1i rfl rfl rfl) rfl rfl (by decide) ?_)) | (apply z0h; (refine z00 (z04 rfl rfl) rfl rfl (by decide) ?_)) | (apply z0n; (first | refine z00 (z0i (ys := lv.map fun r => [rgs r]) rfl (by omega) (idx (g := fun r => [rgs r]) hr) rfl) rfl rfl (by decide) ?_ | refine z00 (z0i (ys := pts.map rcc) rfl (by omega) (idx (g := rcc) hx) rfl) rfl rfl (by decide) ?_)) | (apply z18; (first | refine z00 (zbi (by omega)) rfl rfl (by decide) ?_ | refine z00 z7u rfl rfl (by decide) ?_ | refine z00 (z11 (z1n (by omega) (by omega))) rfl rfl (by decide) ?_)) | (apply z16; (refine z3l hcl rfl (by decide) ?_)))) | (apply z0b; (first | refine z0u ?_ | apply z0a | refine z3v rfl rfl (by decide) ?_ | refine z1h rfl rfl (fun _ => ?_) (fun _ => ?_))) | (apply z0d; (first | apply z0e | apply z01 | refine z1d rfl ?_ | refine z0m rfl ?_ | apply z06 | apply z02 | apply z3c | apply z03 | refine z1j rfl (fun _ => ?_) (fun _ => ?_) | refine z5d rfl (fun _ => ?_) (fun _ => ?_) | refine z0j rfl ?_)) | (apply z3b; (first | (apply z1k; refine z2a mix (by kernel_rfl) ?_) | refine z3g rfl (by first | exact rfl | exact ⟨_, rfl, rfl, rfl⟩) (by decide) ?_ | (apply z0x; (first | refine z05 (z0g rfl rfl rfl rfl) (by first | exact rfl | exact ⟨_, rfl, rfl, rfl⟩) rfl rfl (by decide) ?_ | refine z05 (z1i rfl rfl rfl) (by first | exact rfl | exact ⟨_, rfl, rfl, rfl⟩) rfl rfl (by decide) ?_)) | (apply z0w; (refine z05 (z04 rfl rfl) (by first | exact rfl | exact ⟨_, rfl, rfl, rfl⟩) rfl rfl (by decide) ?_)) | (apply z1g; (first | refine z05 (z0i (ys := pts.map rcc) rfl (by omega) (idx (g := rcc) hx) rfl) (by first | exact rfl | exact ⟨_, rfl, rfl, rfl⟩) rfl rfl (by decide) ?_ | refine z05 (z0i rfl (by omega) (idx hy) rfl) (by first | exact rfl | exact ⟨_, rfl, rfl, rfl⟩) rfl rfl (by decide) ?_)) | (apply z2c; (first | refine z05 (zr8 (by omega)) (by first | exact rfl | exact ⟨_, rfl, rfl, rfl⟩) rfl rfl (by decide) ?_ | refine z05 zc8 (by first | exact rfl | exact ⟨_, rfl, rfl, rfl⟩) rfl rfl (by decide) ?_ | refine z05 (z11 (z1n (by omega) (by omega))) (by first | exact rfl | exact ⟨_, rfl, rfl, rfl⟩) rfl rfl (by decide) ?_)) | (apply z3i; (refine z4t (by first | exact rfl | exact ⟨_, rfl, rfl, rfl⟩) rfl rfl rfl rfl rfl rfl ?_)))))
          all_goals try (exfalso; omega)
          all_goals exact z0o ihn' rfl rfl
         | false =>
          rw [if_neg (fun h => by rw [hin] at h; cases h.2)] at n3
          rw [hin] at hcl
          have ihn' := ihn (k + 1, B') ⟨by simp only; omega, n2, n3⟩ (by simp only; omega)
          repeat' (first | (apply z0c; (first | refine z0v rfl (by decide) ?_ | (apply z09; (first | refine z00 (z0g rfl rfl rfl rfl) rfl rfl (by decide) ?_ | refine z00 (z1i rfl rfl rfl) rfl rfl (by decide) ?_)) | (apply z0h; (refine z00 (z04 rfl rfl) rfl rfl (by decide) ?_)) | (apply z0n; (first | refine z00 (z0i (ys := lv.map fun r => [rgs r]) rfl (by omega) (idx (g := fun r => [rgs r]) hr) rfl) rfl rfl (by decide) ?_ | refine z00 (z0i (ys := pts.map rcc) rfl (by omega) (idx (g := rcc) hx) rfl) rfl rfl (by decide) ?_)) | (apply z18; (first | refine z00 (zbi (by omega)) rfl rfl (by decide) ?_ | refine z00 z7u rfl rfl (by decide) ?_ | refine z00 (z11 (z1n (by omega) (by omega))) rfl rfl (by decide) ?_)) | (apply z16; (refine z3l hcl rfl (by decide) ?_)))) | (apply z0b; (first | refine z0u ?_ | apply z0a | refine z3v rfl rfl (by decide) ?_ | refine z1h rfl rfl (fun _ => ?_) (fun _ => ?_))) | (apply z0d; (first | apply z0e | apply z01 | refine z0m rfl ?_ | apply z06 | apply z02 | apply z3c | apply z03 | refine z1j rfl (fun _ => ?_) (fun _ => ?_) | refine z5d rfl (fun _ => ?_) (fun _ => ?_) | refine z0j rfl ?_)) | (apply z3b; (first | refine z3g rfl (by first | exact rfl | exact ⟨_, rfl, rfl, rfl⟩) (by decide) ?_ | (apply z0x; (refine z05 (z1i rfl rfl rfl) (by first | exact rfl | exact ⟨_, rfl, rfl, rfl⟩) rfl rfl (by decide) ?_)) | (apply z1g; (first | refine z05 (z0i (ys := pts.map rcc) rfl (by omega) (idx (g := rcc) hx) rfl) (by first | exact rfl | exact ⟨_, rfl, rfl, rfl⟩) rfl rfl (by decide) ?_ | refine z05 (z0i rfl (by omega) (idx hy) rfl) (by first | exact rfl | exact ⟨_, rfl, rfl, rfl⟩) rfl rfl (by decide) ?_)) | (apply z2c; (refine z05 (z11 (z1n (by omega) (by omega))) (by first | exact rfl | exact ⟨_, rfl, rfl, rfl⟩) rfl rfl (by decide) ?_)))))
          all_goals try (exfalso; omega)
          all_goals exact z0o ihn' rfl rfl
       · rw [if_neg htb] at hbt
         rw [if_neg (fun h => htb h.1)] at n3
         have ihn' := ihn (k + 1, B') ⟨by simp only; omega, n2, n3⟩ (by simp only; omega)
         repeat' (first | (apply z0c; (first | refine z0v rfl (by decide) ?_ | (apply z09; (first | refine z00 (z0g rfl rfl rfl rfl) rfl rfl (by decide) ?_ | refine z00 (z1i rfl rfl rfl) rfl rfl (by decide) ?_)) | (apply z0h; (refine z00 (z04 rfl rfl) rfl rfl (by decide) ?_)) | (apply z0n; (first | refine z00 (z0i (ys := lv.map fun r => [rgs r]) rfl (by omega) (idx (g := fun r => [rgs r]) hr) rfl) rfl rfl (by decide) ?_ | refine z00 (z0i (ys := pts.map rcc) rfl (by omega) (idx (g := rcc) hx) rfl) rfl rfl (by decide) ?_)) | (apply z18; (first | refine z00 (zbi (by omega)) rfl rfl (by decide) ?_ | refine z00 z7u rfl rfl (by decide) ?_ | refine z00 (z11 (z1n (by omega) (by omega))) rfl rfl (by decide) ?_)) | (apply z16; (refine z3l hcl rfl (by decide) ?_)))) | (apply z0b; (first | refine z0u ?_ | apply z0a | refine z3v rfl rfl (by decide) ?_ | refine z1h rfl rfl (fun _ => ?_) (fun _ => ?_))) | (apply z0d; (first | apply z0e | apply z01 | refine z0m rfl ?_ | apply z06 | apply z02 | apply z3c | apply z03 | refine z1j rfl (fun _ => ?_) (fun _ => ?_) | refine z5d rfl (fun _ => ?_) (fun _ => ?_) | refine zcn rfl (fun _ => ?_) (fun _ => ?_) | refine z0j rfl ?_)) | (apply z3b; (first | (apply z1k; refine z2a mix (by kernel_rfl) ?_) | refine z3g rfl (by first | exact rfl | exact ⟨_, rfl, rfl, rfl⟩) (by decide) ?_ | (apply z0x; (first | refine z05 (z0g rfl rfl rfl rfl) (by first | exact rfl | exact ⟨_, rfl, rfl, rfl⟩) rfl rfl (by decide) ?_ | refine z05 (z1i rfl rfl rfl) (by first | exact rfl | exact ⟨_, rfl, rfl, rfl⟩) rfl rfl (by decide) ?_)) | (apply z0w; (refine z05 (z04 rfl rfl) (by first | exact rfl | exact ⟨_, rfl, rfl, rfl⟩) rfl rfl (by decide) ?_)) | (apply z1g; (first | refine z05 (z0i (ys := pts.map rcc) rfl (by omega) (idx (g := rcc) hx) rfl) (by first | exact rfl | exact ⟨_, rfl, rfl, rfl⟩) rfl rfl (by decide) ?_ | refine z05 (z0i rfl (by omega) (idx hy) rfl) (by first | exact rfl | exact ⟨_, rfl, rfl, rfl⟩) rfl rfl (by decide) ?_)) | (apply z2c; (first | refine z05 (zr8 (by omega)) (by first | exact rfl | exact ⟨_, rfl, rfl, rfl⟩) rfl rfl (by decide) ?_ | refine z05 zc8 (by first | exact rfl | exact ⟨_, rfl, rfl, rfl⟩) rfl rfl (by decide) ?_ | refine z05 (z11 (z1n (by omega) (by omega))) (by first | exact rfl | exact ⟨_, rfl, rfl, rfl⟩) rfl rfl (by decide) ?_)) | (apply z3i; (refine z4t (by first | exact rfl | exact ⟨_, rfl, rfl, rfl⟩) rfl rfl rfl rfl rfl rfl ?_)))))
         all_goals try (exfalso; omega)
         all_goals exact z0o ihn' rfl rfl
     · obtain rfl : k = lv.length := by omega
       rw [List.drop_length, rdF] at n3
       subst n3
       clear ihn
       by_cases hz : B' = 0
       · subst hz
         rw [if_pos rfl, Option.toList_none, List.append_nil] at ih'
         repeat' (first | (apply z0c; (first | refine z0v rfl (by decide) ?_ | (apply z09; (refine z00 (z0g rfl rfl rfl rfl) rfl rfl (by decide) ?_)) | (apply z0h; (refine z00 (z04 rfl rfl) rfl rfl (by decide) ?_)) | (apply z18; (refine z00 (z11 (z1n (by omega) (by omega))) rfl rfl (by decide) ?_)))) | (apply z0b; (first | refine z0u ?_ | apply z0a)) | (apply z0d; (first | apply z0e | apply z01 | refine z0m rfl ?_ | apply z06 | apply z02 | apply z03 | refine z1j rfl (fun _ => ?_) (fun _ => ?_) | refine z0j rfl ?_)))
         all_goals try (exfalso; first | omega | (simp at *; done))
         all_goals exact z0o ih' rfl rfl
       · have hzi : ¬ ((B' : Nat) : Int) = 0 := by omega
         rw [if_neg hz, Option.toList_some] at ih'
         repeat' (first | (apply z0c; (first | refine z0v rfl (by decide) ?_ | (apply z09; (refine z00 (z0g rfl rfl rfl rfl) rfl rfl (by decide) ?_)) | (apply z0h; (refine z00 (z04 rfl rfl) rfl rfl (by decide) ?_)) | (apply z18; (refine z00 (z11 (z1n (by omega) (by omega))) rfl rfl (by decide) ?_)))) | (apply z0b; (first | refine z0u ?_ | apply z0a)) | (apply z0d; (first | apply z0e | apply z01 | apply z06 | apply z02 | apply z3c | apply z03 | refine z1j rfl (fun _ => ?_) (fun _ => ?_) | refine z5d rfl (fun _ => ?_) (fun _ => ?_) | refine z0j rfl ?_)) | (apply z3b; (first | (apply z1k; refine z2a mix (by kernel_rfl) ?_) | refine z3g rfl (by first | exact rfl | exact ⟨_, rfl, rfl, rfl⟩) (by decide) ?_ | (apply z0x; (first | refine z05 (z1i rfl rfl rfl) (by first | exact rfl | exact ⟨_, rfl, rfl, rfl⟩) rfl rfl (by decide) ?_ | refine z05 (z14 rfl rfl rfl rfl) (by first | exact rfl | exact ⟨_, rfl, rfl, rfl⟩) rfl rfl (by decide) ?_)) | (apply z1g; (first | refine z05 (z0i (ys := pts.map rcc) rfl (by omega) (idx (g := rcc) hx) rfl) (by first | exact rfl | exact ⟨_, rfl, rfl, rfl⟩) rfl rfl (by decide) ?_ | refine z05 (z0i (ys := pts.map rcc) rfl (by omega) (zdt (g := rcc) hyi) rfl) (by first | exact rfl | exact ⟨_, rfl, rfl, rfl⟩) rfl rfl (by decide) ?_)) | (apply z2c; (first | refine z05 (z29 (z99 (by omega) (by omega))) (by first | exact rfl | exact ⟨_, rfl, rfl, rfl⟩) rfl rfl (by decide) ?_ | refine z05 (z11 (z1n (by omega) (by omega))) (by first | exact rfl | exact ⟨_, rfl, rfl, rfl⟩) rfl rfl (by decide) ?_)) | (apply z6m; (refine za7 (g := sed) (by first | exact rfl | exact ⟨_, rfl, rfl, rfl⟩) rfl rfl ((x, y - 1, (false, B')) : Go.Ax.Edge (Bool × Nat)) rfl rfl rfl rfl rfl rfl rfl (by decide) (by omega) ?_)) | (apply zdz; (refine zgf (by first | exact rfl | exact ⟨_, rfl, rfl, rfl⟩) rfl rfl rfl rfl rfl rfl rfl (by decide) ?_)) | (apply z8n; (refine zdh (by first | exact rfl | exact ⟨_, rfl, rfl, rfl⟩) rfl rfl rfl rfl rfl rfl rfl rfl (by decide) ?_)))))
         all_goals try (exfalso; first | omega | (simp at *; done))
         all_goals refine z2h 96 1002 rfl rfl ?_
         all_goals exact z0o ih' rfl rfl
   · obtain rfl : i = pts.length - 1 := by omega
     clear ih
     repeat' (first | (apply z0c; (first | refine z0v rfl (by decide) ?_ | (apply z0f; (refine z08 rfl rfl rfl rfl rfl rfl ?_)) | (apply z0l; (refine z07 (z0k rfl rfl (by decide)) ?_)) | (apply z0z; (refine z10 rfl rfl rfl rfl rfl rfl rfl (by decide) ?_)))) | (apply z0b; (first | refine z0u ?_ | apply z0a)) | (apply z0d; (first | apply z0e | apply z01 | apply z06 | apply z02 | refine z1j rfl (fun _ => ?_) (fun _ => ?_) | refine z0j rfl ?_)))
     all_goals try (exfalso; omega)
     all_goals refine z1z 1002 rfl ?_
     all_goals exact z0r Tryz.func59 _ (z0p rfl rfl) ⟨rfl, rfl⟩
end
end Go.Proofs.YthdfkabdoidjfaaGreatDoor
namespace Go.Proofs.YthdfkabdoidjfaaGreatDoor
open Go.Ab Go.Ax Go.Rx
set_option maxHeartbeats 20000000
set_option maxRecDepth 100000
attribute [local irreducible] Run Ops Op1 z2f Val Tr z1f z2d NF Rel z47 z48
theorem zfe {N : Nat} {lv : List (List Rg)} {e : Go.Ax.Edge (Bool × Nat)} (h : e ∈ zc7 N lv) : ∃ i x y, (zec N lv)[i]? = some x ∧ (zec N lv)[i + 1]? = some y ∧ e = (x, y - 1, (false, zto N lv x)) ∧ zto N lv x ≠ 0 := by
 rw [zc7, List.mem_filterMap] at h
 obtain ⟨i, hi, he⟩ := h
 rw [List.mem_range] at hi
 obtain ⟨x, hx⟩ : ∃ x, (zec N lv)[i]? = some x := ⟨_, List.getElem?_eq_getElem (by omega)⟩
 obtain ⟨y, hy⟩ : ∃ y, (zec N lv)[i + 1]? = some y := ⟨_, List.getElem?_eq_getElem (by omega)⟩
 rw [cE, z3u hx, z3u hy] at he
 split at he
 · cases he
 · rename_i hu
   simp only [Option.some.injEq] at he
   exact ⟨i, x, y, hx, hy, he.symm, hu⟩
theorem zpt {N : Nat} {lv : List (List Rg)} (hl64 : lv.length ≤ 64) (hlr : ∀ r ∈ lv, ∀ x ∈ r, 0 ≤ x.1 ∧ x.1 ≤ 1114111 ∧ 0 ≤ x.2 ∧ x.2 ≤ 1114111) : edE (zc7 N lv) ∧ ∀ e ∈ zc7 N lv, e.2.2.2 < 2 ^ 64 := by
 have hr := zay (L := z8v N 0 lv) fun r h => hlr r (z8w N lv 0 r h)
 have hlt := zmg (z8v N 0 lv)
 have hlen := zh3 (B := 1114112) hlt (fun z hz => by have := hr z hz; omega)
 refine ⟨⟨?_, fun e he => ?_⟩, fun e he => ?_⟩
 · have := z4u (cE N lv (zec N lv)) (List.range ((zec N lv).length - 1))
   rw [List.length_range] at this
   rw [zc7]; rw [zec] at *; omega
 · obtain ⟨i, x, y, hx, hy, rfl, _⟩ := zfe he
   have h1 := hr x (List.mem_of_getElem? hx)
   have h2 := hr y (List.mem_of_getElem? hy)
   have : x < y := by
    obtain ⟨a1, a2⟩ := List.getElem?_eq_some_iff.1 hx
    obtain ⟨b1, b2⟩ := List.getElem?_eq_some_iff.1 hy
    have := List.pairwise_iff_getElem.1 hlt i (i + 1) a1 b1 (by omega)
    rw [← a2, ← b2]; exact this
   simp only; omega
 · obtain ⟨i, x, y, hx, hy, rfl, _⟩ := zfe he
   simp only; exact zr5 _ _ _ hl64 (by decide)
/-- the automaton of the sets of leaves -/
def zpv (lv : List (List Rg)) (f l : Nat) (fo : List Nat) (nu : Bool) : Option Au := exL (fun k => (k.1 && nu) || decide (k.2 &&& l ≠ 0)) (fun k => zc7 (nxN f fo k) lv) 256 257 0 [(true, 0)] ⟨[], []⟩
def zo8 (e : Rx) : Option Au := zpv (bd e tb0).1.lv (bd e tb0).2.f (bd e tb0).2.l (bd e tb0).1.fo (bd e tb0).2.nu
theorem zl1 {M : Nat} (hS : zb7 M) (hM : M ≤ 200000000) (e : Rx) (hf : fit e) (h0 : val e = 0) (hlr : ∀ r ∈ (bd e tb0).1.lv, ∀ x ∈ r, 0 ≤ x.1 ∧ x.1 ≤ 1114111 ∧ 0 ≤ x.2 ∧ x.2 ≤ 1114111) (hln : ∀ r ∈ (bd e tb0).1.lv, r.length ≤ 200000000)
  (hsz : ∀ N : Nat, (z5v (z8v N 0 (bd e tb0).1.lv)).length ≤ M) : z1f Tryz.prog 33 [.d (Drx e)] (zt6 (zo8 e)) := by
 refine z1x fun H => ?_
 have hval := zck e hf
 have hvn := zrp h0
 have hpn := zvq h0
 have hof := zye e hvn hf hpn
 have hbl := (ztr hvn).bl tb0 rfl
 have hfw := (ztr hvn).few tb0 rfl
 rw [h0] at hval
 rw [zo8]
 dsimp only [ofB] at hof
 generalize hB : bd e tb0 = r1 at *
 obtain ⟨t1, p⟩ := r1
 have hfw2 : (t1.lv.length : Int) ≤ Rx.pn e := by simpa using hfw
 obtain ⟨s2, pf, pl⟩ := hbl.sm ⟨rfl, by simp⟩ (by show t1.lv.length ≤ 64; omega)
 obtain ⟨lv, fo⟩ := t1
 have hl64 : lv.length ≤ 64 := by
  have : lv.length = (⟨lv, fo⟩ : Tb).lv.length := rfl
  omega
 have hfo : fo.length = lv.length := s2.len
 have hfx : ∀ x ∈ fo, x < 2 ^ 64 := s2.sm
 simp only at pf pl hof hlr hln hsz ⊢
 obtain ⟨f, l, nu⟩ := p
 simp only at pf pl hof ⊢
 have hex : z2d Tryz.prog 63 [scP (true, 0), .fn (.func 58) [] [.ptr (0, 4) 0], .fn (.func 59) [] [.ptr (0, 4) 0], I .i64 256] [((0, 4), .box [.ptr (0, 14) 0]), ((0, 14), tbx lv f l fo nu)] [] (exR (zpv lv f l fo nu)) := z2p fun H hH =>
  zjf (.box [.ptr (0, 14) 0]) (tbx lv f l fo nu) (fun k => k.2 < 2 ^ 64) _ _ (true, 0) 256 (by decide) (by decide) (by decide)
   (fun k hk => zt8 lv f l fo nu k hk pl) (fun k hk => zs3 lv f l fo nu hS hM k hk pf hfo hl64 hfx hlr hln hsz) (fun k hk => zpt hl64 hlr) H (hH ((0, 4), .box [.ptr (0, 14) 0]) (by simp)) (hH ((0, 14), tbx lv f l fo nu) (by simp))
 generalize zpv lv f l fo nu = o at *
 obtain ⟨op, mn, mx, rs, ks⟩ := e
 rw [z5j] at hval hof ⊢
 cases o with
 | some x =>
  simp only [exR] at hex
  simp only [zt6]
  refine z0t Tryz.func33 (by kernel_rfl) rfl (by simp) ?_
  dsimp only [Tryz.f33]
  repeat' (first | (apply z0c; (first | refine z8y rfl rfl (by decide) ?_ | refine z0v rfl (by decide) ?_ | (apply z09; (first | refine z00 (z2i rfl rfl rfl) rfl rfl (by decide) ?_ | refine z00 (z14 rfl rfl rfl rfl) rfl rfl (by decide) ?_)) | (apply z16; (first | refine z3q hex rfl rfl (by decide) ?_ | refine z3l hval rfl (by decide) ?_ | (refine zmm rfl (hof _) (by decide) rfl (fun r H' h => ⟨_, h.1, h.2, rfl, rfl, ?_⟩)) /- zfl -/)) | (apply z0f; (refine z08 rfl rfl rfl rfl rfl rfl ?_)) | (apply z0l; (refine z07 (z0k rfl rfl (by decide)) ?_)) | (apply z2b; (refine z07 (z2k rfl rfl rfl rfl rfl (by decide)) ?_)) | (apply z0z; (refine z10 rfl rfl rfl rfl rfl rfl rfl (by decide) ?_)))) | (apply z0b; (first | refine z0u ?_ | apply z0a)) | (apply z0d; (first | apply z0e | apply z01 | refine z0m rfl ?_ | apply z06)))
  all_goals try (exfalso; first | omega | (simp at *; done) | (simp at *; omega))
  all_goals exact z0r Tryz.func33 _ (z1b rfl rfl rfl rfl rfl rfl rfl) ⟨rfl, rfl⟩
 | none =>
  simp only [exR] at hex
  simp only [zt6]
  refine z0t Tryz.func33 (by kernel_rfl) rfl (by simp) ?_
  dsimp only [Tryz.f33]
  repeat' (first | (apply z0c; (first | refine z8y rfl rfl (by decide) ?_ | refine z0v rfl (by decide) ?_ | (apply z09; (refine z00 (z2i rfl rfl rfl) rfl rfl (by decide) ?_)) | (apply z16; (first | refine z3q hex rfl rfl (by decide) ?_ | refine z3l hval rfl (by decide) ?_ | (refine zmm rfl (hof _) (by decide) rfl (fun r H' h => ⟨_, h.1, h.2, rfl, rfl, ?_⟩)) /- zfl -/)) | (apply z0f; (refine z08 rfl rfl rfl rfl rfl rfl ?_)) | (apply z0l; (refine z07 (z0k rfl rfl (by decide)) ?_)) | (apply z2b; (refine z07 (z2k rfl rfl rfl rfl rfl (by decide)) ?_)) | (apply z0z; (refine z10 rfl rfl rfl rfl rfl rfl rfl (by decide) ?_)))) | (apply z0b; (first | refine z0u ?_ | apply z0a)) | (apply z0d; (first | apply z0e | apply z01 | refine z1d rfl ?_ | refine z0m rfl ?_ | apply z06)))
  all_goals try (exfalso; first | omega | (simp at *; done) | (simp at *; omega))
  all_goals exact z0r Tryz.func33 _ (z1b rfl rfl rfl rfl rfl rfl rfl) ⟨rfl, rfl⟩
end Go.Proofs.YthdfkabdoidjfaaGreatDoor
