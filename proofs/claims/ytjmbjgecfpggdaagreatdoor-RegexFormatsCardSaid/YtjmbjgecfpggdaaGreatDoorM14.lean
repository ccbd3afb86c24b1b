/- A part of the proof: Z14. -/
import Derived.Test.YtjmbjgecfpggdaaGreatDoorM3
import Derived.Test.YtjmbjgecfpggdaaGreatDoorM46
set_option linter.all false
set_option linter.unusedVariables false
set_option linter.unusedSimpArgs false
namespace Go.Proofs.YtjmbjgecfpggdaaGreatDoor
open Go.Ab Go.Rx
set_option maxHeartbeats 20000000
set_option maxRecDepth 100000
attribute [local irreducible] Run Ops Op1 z2r Val Tr z1n z36 NF Rel z5q z5r zad
theorem zmy (l : List Rx) (k : Rx) : fmC (l ++ [k]) = fmC l ++ fm k 2 := by
 induction l with
 | nil => simp [fmC]
 | cons x l ih => rw [List.cons_append, fmC, fmC, ih, List.append_assoc]
theorem zmt (l : List Rx) (k : Rx) : fmV (l ++ [k]) = fmV l ++ [124] ++ fm k 3 := by
 induction l with
 | nil => simp [fmV]
 | cons x l ih => rw [List.cons_append, fmV, fmV, ih]; simp
theorem znr (l : List Rx) (k : Rx) (h : l ≠ []) : fmU (l ++ [k]) = fmU l ++ [124] ++ fm k 3 := by
 cases l with
 | nil => exact absurd rfl h
 | cons x l => rw [List.cons_append, fmU, fmU, zmt]; simp
theorem zeh : ∀ (l : List Rx) (i : Nat), szL (l.take i) ≤ szL l
 | [], i => by simp
 | x :: l, 0 => by simp [szL]
 | x :: l, i + 1 => by have := zeh l i; rw [List.take_succ_cons, szL, szL]; omega
theorem zby : ∀ (l : List Rx) (i : Nat), z7t l = true → z7t (l.take i) = true
 | [], i, _ => by simp [z7t]
 | x :: l, 0, _ => by simp [z7t]
 | x :: l, i + 1, h => by
  rw [z7t, Bool.and_eq_true] at h
  rw [List.take_succ_cons, z7t, h.1, zby l i h.2]; rfl
theorem zlt : ∀ e : Rx, fit e → vns e = true → sz e ≤ 200 → ∀ w : Int, z1n Tryz.prog 27 [.d (Drx e), I .i64 w] (S (txE (fm e w))) := by
 refine Rx.ind' fun op mn mx rs ks ih hfit hv hsz w => ?_
 obtain ⟨hf1, hf2, hf3⟩ := hfit
 have hvn := hv
 rw [vns, Bool.and_eq_true] at hvn
 obtain ⟨hvn, hvk⟩ := hvn
 rw [sz] at hsz
 have hsub : ∀ k ∈ ks, sz k ≤ szL ks := fun k hk => zgo hk
 have hkl := z7e ks
 have sa : ∀ a b : ByteArray, (a ++ b).size = a.size + b.size := fun a b => by simp
 have z1 : (⟨#[40]⟩ : ByteArray).size = 1 := rfl
 have z2 : (⟨#[41]⟩ : ByteArray).size = 1 := rfl
 have z3 : (⟨#[124]⟩ : ByteArray).size = 1 := rfl
 have hbr : ∀ l : List Int, txE (brk true l) = ((⟨#[40]⟩ : ByteArray) ++ txE l) ++ ⟨#[41]⟩ := fun l => by
  rw [brk, if_pos rfl, z1q, z1q]; rfl
 have hbf : ∀ l : List Int, txE (brk false l) = txE l := fun l => by rw [brk, if_neg (by decide)]
 rw [z5f]
 refine z1u fun H => ?_
 refine z16 Tryz.func27 (by kernel_rfl) rfl (by simp) ?_
 dsimp only [Tryz.f27]
 rcases z43 hvn with ⟨rfl, rfl, rfl, rfl, hrs⟩ | ⟨rfl, rfl, rfl, rfl, _⟩ | ⟨rfl, rfl, rfl, rfl, _⟩ | ⟨rfl, rfl, h4, h5, h6, h7⟩
 · have c1 := zs5 rs hrs
   rw [fm, if_pos rfl]
   generalize txE (z7w rs) = T at *
   repeat' (first | (apply z0e; (first | refine z13 rfl (by decide) ?_ | (apply z09; (refine z00 (z0k rfl rfl rfl rfl) rfl rfl (by decide) ?_)) | (apply z08; (refine z00 (z03 rfl rfl) rfl rfl (by decide) ?_)) | (apply z0l; (refine z1z c1 rfl (by decide) ?_)) | (apply z1y; (refine z0j (z3b rfl rfl rfl rfl rfl (by decide)) ?_)))) | (apply z0f; (first | refine z0z ?_ | apply z0c)) | (apply z0d; (first | apply z0h | apply z01 | refine z0o rfl ?_ | apply z02)))
   all_goals try (exfalso; omega)
   all_goals exact z07 Tryz.func27 _ (z0a rfl rfl) ⟨rfl, rfl⟩
 · rw [show fm (.mk 2 0 0 [] ks) w = brk (decide (w = 4)) (fmC ks) by rw [fm, if_neg (by decide), if_pos rfl]]
   repeat' (first | (apply z0e; (first | refine z13 rfl (by decide) ?_ | (apply z09; (refine z00 (z0k rfl rfl rfl rfl) rfl rfl (by decide) ?_)) | (apply z08; (refine z00 (z03 rfl rfl) rfl rfl (by decide) ?_)) | (apply z1k; (refine z00 (z1p rfl) rfl rfl (by decide) ?_)) | (apply z1y; (refine z0j (z3b rfl rfl rfl rfl rfl (by decide)) ?_)))) | (apply z0f; (first | refine z0z ?_ | apply z0c)) | (apply z0d; (first | apply z0h | apply z01 | refine z0o rfl ?_ | refine z0g rfl ?_ | apply z02)))
   all_goals try (exfalso; omega)
   refine z2b ?_
   refine z0y (z3e (fun q : Nat => ⟨152, [(1, I .i64 w), (2, .ptr (0, 2) 0), (5, S (txE (fmC (ks.take q)))), (20, .d (.slice (ks.map rxc))), (21, I .i64 ks.length), (22, I .i64 (q : Nat))], [(2, .box ((rx5 2 0 0 [] ks).map .d))], H⟩) (fun q => q ≤ ks.length) (fun q => ks.length - q) ?_ 0 (Nat.zero_le _)) rfl rfl
   rintro i i1 ihl
   have hl := (zbz.2 (ks.take i) (zby ks i hvk)).1
   have hst := zeh ks i
   have hzz := (z2m (fmC (ks.take i))).2
   by_cases hlt : i < ks.length
   · obtain ⟨k, hk⟩ : ∃ k, ks[i]? = some k := ⟨_, List.getElem?_eq_getElem hlt⟩
     have hkm := List.mem_of_getElem? hk
     have hvk' := z3t hvk k hkm
     have hszk := hsub k hkm
     have hc := ih k hkm (z3o hf3 k hkm) hvk' (by omega) 2
     have hl2 := zbz.1 k hvk' 2
     have hz2 := (z2m (fm k 2)).2
     have ihl' := ihl (i + 1) (by omega) (by omega)
     rw [z4r hk, zmy, z1q] at ihl'
     generalize txE (fmC (ks.take i)) = A at *
     obtain ⟨op', mn', mx', rs', ks'⟩ := k
     have hix := z3l hk
     rw [z5f] at hc
     generalize txE (fm (.mk op' mn' mx' rs' ks') 2) = T at *
     repeat' (first | (apply z0e; (first | refine z13 rfl (by decide) ?_ | (apply z09; (first | refine z00 (z0k rfl rfl rfl rfl) rfl rfl (by decide) ?_ | refine z00 (z0w rfl rfl) rfl rfl (by decide) ?_ | refine z00 (z1a rfl rfl rfl rfl) rfl rfl (by decide) ?_)) | (apply z08; (refine z00 (z03 rfl rfl) rfl rfl (by decide) ?_)) | (apply z1c; (refine z00 (z0t (ys := ks.map rxc) rfl (by omega) hix rfl) rfl rfl (by decide) ?_)) | (apply z19; (refine z00 (z1e (z1s (by omega) (by omega))) rfl rfl (by decide) ?_)) | (apply z0l; (refine z1z hc rfl (by decide) ?_)) | (apply z0i; (refine z0b rfl rfl rfl rfl rfl rfl ?_)) | (apply z0q; (refine z0j (z0p rfl rfl (by decide)) ?_)) | refine z00 (z29 (by (try simp only [sa]); omega)) rfl rfl (by decide) ?_)) | (apply z0f; (first | refine z0z ?_ | apply z0c)) | (apply z0d; (first | apply z0h | apply z01 | apply z06 | apply z02 | apply z04 | refine z1o rfl (fun _ => ?_) (fun _ => ?_) | refine z0r rfl ?_)))
     all_goals try (exfalso; omega)
     all_goals exact z0y ihl' rfl rfl
   · obtain rfl : i = ks.length := by omega
     rw [List.take_length] at *
     clear ihl
     by_cases hw4 : w = 4
     · rw [decide_eq_true hw4, hbr]
       repeat' (first | (apply z0e; (first | refine z13 rfl (by decide) ?_ | refine z00 (z29 (by (try simp only [sa]); omega)) rfl rfl (by decide) ?_)) | (apply z0f; (first | refine z0z ?_ | apply z0c)) | (apply z0d; (first | apply z0h | apply z01 | apply z06 | apply z02 | refine z1o rfl (fun _ => ?_) (fun _ => ?_) | refine z0r rfl ?_)))
       all_goals try (exfalso; omega)
       all_goals exact z07 Tryz.func27 _ (z0a rfl rfl) ⟨rfl, rfl⟩
     · rw [decide_eq_false hw4, hbf]
       repeat' (first | (apply z0e; (first | refine z13 rfl (by decide) ?_ | refine z00 (z29 (by (try simp only [sa]); omega)) rfl rfl (by decide) ?_)) | (apply z0f; (first | refine z0z ?_ | apply z0c)) | (apply z0d; (first | apply z0h | apply z01 | apply z06 | apply z02 | refine z1o rfl (fun _ => ?_) (fun _ => ?_) | refine z0r rfl ?_)))
       all_goals try (exfalso; omega)
       all_goals exact z07 Tryz.func27 _ (z0a rfl rfl) ⟨rfl, rfl⟩
 · rw [show fm (.mk 3 0 0 [] ks) w = brk (decide (w = 4) || decide (w = 2)) (fmU ks) by rw [fm, if_neg (by decide), if_neg (by decide), if_pos rfl]]
   repeat' (first | (apply z0e; (first | refine z13 rfl (by decide) ?_ | (apply z09; (refine z00 (z0k rfl rfl rfl rfl) rfl rfl (by decide) ?_)) | (apply z08; (refine z00 (z03 rfl rfl) rfl rfl (by decide) ?_)) | (apply z1k; (refine z00 (z1p rfl) rfl rfl (by decide) ?_)) | (apply z1y; (refine z0j (z3b rfl rfl rfl rfl rfl (by decide)) ?_)))) | (apply z0f; (first | refine z0z ?_ | apply z0c)) | (apply z0d; (first | apply z0h | apply z01 | refine z0o rfl ?_ | refine z0g rfl ?_ | apply z02)))
   all_goals try (exfalso; omega)
   refine z2b ?_
   refine z0y (z3e (fun q : Nat => ⟨152, [(1, I .i64 w), (2, .ptr (0, 2) 0), (5, S (txE (fmU (ks.take q)))), (42, .d (.slice (ks.map rxc))), (43, I .i64 ks.length), (44, I .i64 (q : Nat))], [(2, .box ((rx5 3 0 0 [] ks).map .d))], H⟩) (fun q => q ≤ ks.length) (fun q => ks.length - q) ?_ 0 (Nat.zero_le _)) rfl rfl
   rintro i i1 ihl
   have hl := (zbz.2 (ks.take i) (zby ks i hvk)).2.1
   have hst := zeh ks i
   have hzz := (z2m (fmU (ks.take i))).2
   by_cases hlt : i < ks.length
   · obtain ⟨k, hk⟩ : ∃ k, ks[i]? = some k := ⟨_, List.getElem?_eq_getElem hlt⟩
     have hkm := List.mem_of_getElem? hk
     have hvk' := z3t hvk k hkm
     have hszk := hsub k hkm
     have hc := ih k hkm (z3o hf3 k hkm) hvk' (by omega) 3
     have hl2 := zbz.1 k hvk' 3
     have hz2 := (z2m (fm k 3)).2
     have ihl' := ihl (i + 1) (by omega) (by omega)
     rw [z4r hk] at ihl'
     cases i with
     | zero =>
      rw [List.take_zero, List.nil_append, show fmU [k] = fm k 3 by rw [fmU, fmV, List.append_nil]] at ihl'
      rw [List.take_zero, show txE (fmU []) = ⟨#[]⟩ from rfl]
      have hne : (⟨#[]⟩ : ByteArray) ++ txE (fm k 3) = txE (fm k 3) := by
       rw [show (⟨#[]⟩ : ByteArray) = txE [] from rfl, ← z1q]; rfl
      rw [← hne] at ihl'
      have z0 : (⟨#[]⟩ : ByteArray).size = 0 := rfl
      obtain ⟨op', mn', mx', rs', ks'⟩ := k
      have hix := z3l hk
      rw [z5f] at hc
      generalize txE (fm (.mk op' mn' mx' rs' ks') 3) = T at *
      clear hne
      repeat' (first | (apply z0e; (first | refine z13 rfl (by decide) ?_ | (apply z09; (first | refine z00 (z0k rfl rfl rfl rfl) rfl rfl (by decide) ?_ | refine z00 (z0w rfl rfl) rfl rfl (by decide) ?_ | refine z00 (z1a rfl rfl rfl rfl) rfl rfl (by decide) ?_)) | (apply z08; (refine z00 (z03 rfl rfl) rfl rfl (by decide) ?_)) | (apply z1c; (refine z00 (z0t (ys := ks.map rxc) rfl (by omega) hix rfl) rfl rfl (by decide) ?_)) | (apply z19; (refine z00 (z1e (z1s (by omega) (by omega))) rfl rfl (by decide) ?_)) | (apply z0l; (refine z1z hc rfl (by decide) ?_)) | (apply z0i; (refine z0b rfl rfl rfl rfl rfl rfl ?_)) | (apply z0q; (refine z0j (z0p rfl rfl (by decide)) ?_)) | refine z00 (z29 (by (try simp only [sa]); omega)) rfl rfl (by decide) ?_)) | (apply z0f; (first | refine z0z ?_ | apply z0c | refine z2e rfl rfl (by decide) ?_ | refine z0u rfl rfl (fun _ => ?_) (fun _ => ?_))) | (apply z0d; (first | apply z0h | apply z01 | refine z0o rfl ?_ | refine z0g rfl ?_ | apply z06 | apply z02 | apply z04 | refine z1o rfl (fun _ => ?_) (fun _ => ?_) | refine z0r rfl ?_)))
      all_goals try (exfalso; omega)
      all_goals exact z0y ihl' rfl rfl
     | succ i =>
      rw [znr _ _ (by intro h; have := congrArg List.length h; rw [List.length_take, List.length_nil] at this; omega), z1q, z1q, show txE [124] = ⟨#[124]⟩ from rfl] at ihl'
      generalize txE (fmU (ks.take (i + 1))) = A at *
      obtain ⟨op', mn', mx', rs', ks'⟩ := k
      have hix := z3l hk
      rw [z5f] at hc
      generalize txE (fm (.mk op' mn' mx' rs' ks') 3) = T at *
      repeat' (first | (apply z0e; (first | refine z13 rfl (by decide) ?_ | (apply z09; (first | refine z00 (z0k rfl rfl rfl rfl) rfl rfl (by decide) ?_ | refine z00 (z0w rfl rfl) rfl rfl (by decide) ?_ | refine z00 (z1a rfl rfl rfl rfl) rfl rfl (by decide) ?_)) | (apply z08; (refine z00 (z03 rfl rfl) rfl rfl (by decide) ?_)) | (apply z1c; (refine z00 (z0t (ys := ks.map rxc) rfl (by omega) hix rfl) rfl rfl (by decide) ?_)) | (apply z19; (refine z00 (z1e (z1s (by omega) (by omega))) rfl rfl (by decide) ?_)) | (apply z0l; (refine z1z hc rfl (by decide) ?_)) | (apply z0i; (refine z0b rfl rfl rfl rfl rfl rfl ?_)) | (apply z0q; (refine z0j (z0p rfl rfl (by decide)) ?_)) | refine z00 (z29 (by (try simp only [sa]); omega)) rfl rfl (by decide) ?_)) | (apply z0f; (first | refine z0z ?_ | apply z0c | refine z2e rfl rfl (by decide) ?_ | refine z0u rfl rfl (fun _ => ?_) (fun _ => ?_))) | (apply z0d; (first | apply z0h | apply z01 | refine z0o rfl ?_ | apply z06 | apply z02 | apply z04 | refine z1o rfl (fun _ => ?_) (fun _ => ?_) | refine z0r rfl ?_)))
      all_goals try (exfalso; omega)
      all_goals exact z0y ihl' rfl rfl
   · obtain rfl : i = ks.length := by omega
     rw [List.take_length] at *
     clear ihl
     by_cases hw4 : w = 4
     · rw [decide_eq_true hw4, Bool.true_or, hbr]
       repeat' (first | (apply z0e; (first | refine z13 rfl (by decide) ?_ | refine z00 (z29 (by (try simp only [sa]); omega)) rfl rfl (by decide) ?_)) | (apply z0f; (first | refine z0z ?_ | apply z0c | refine z2e rfl rfl (by decide) ?_ | refine z0u rfl rfl (fun _ => ?_) (fun _ => ?_))) | (apply z0d; (first | apply z0h | apply z01 | refine z0o rfl ?_ | apply z06 | apply z02 | refine z1o rfl (fun _ => ?_) (fun _ => ?_) | refine z0r rfl ?_)))
       all_goals try (exfalso; omega)
       all_goals exact z07 Tryz.func27 _ (z0a rfl rfl) ⟨rfl, rfl⟩
     · rw [decide_eq_false hw4, Bool.false_or]
       by_cases hw2 : w = 2
       · rw [decide_eq_true hw2, hbr]
         repeat' (first | (apply z0e; (first | refine z13 rfl (by decide) ?_ | refine z00 (z29 (by (try simp only [sa]); omega)) rfl rfl (by decide) ?_)) | (apply z0f; (first | refine z0z ?_ | apply z0c | refine z2e rfl rfl (by decide) ?_ | refine z0u rfl rfl (fun _ => ?_) (fun _ => ?_))) | (apply z0d; (first | apply z0h | apply z01 | refine z0o rfl ?_ | apply z06 | apply z02 | refine z1o rfl (fun _ => ?_) (fun _ => ?_) | refine z0r rfl ?_)))
         all_goals try (exfalso; omega)
         all_goals exact z07 Tryz.func27 _ (z0a rfl rfl) ⟨rfl, rfl⟩
       · rw [decide_eq_false hw2, hbf]
         repeat' (first | (apply z0e; (first | refine z13 rfl (by decide) ?_ | refine z00 (z29 (by (try simp only [sa]); omega)) rfl rfl (by decide) ?_)) | (apply z0f; (first | refine z0z ?_ | apply z0c | refine z2e rfl rfl (by decide) ?_ | refine z0u rfl rfl (fun _ => ?_) (fun _ => ?_))) | (apply z0d; (first | apply z0h | apply z01 | refine z0o rfl ?_ | apply z06 | apply z02 | refine z1o rfl (fun _ => ?_) (fun _ => ?_) | refine z0r rfl ?_)))
         all_goals try (exfalso; omega)
         all_goals exact z07 Tryz.func27 _ (z0a rfl rfl) ⟨rfl, rfl⟩
 · obtain ⟨k, rfl⟩ := h4
   have hvk' := z3t hvk k (by simp)
   have hszk := hsub k (by simp)
   have hc := ih k (by simp) (z3o hf3 k (by simp)) hvk' (by omega) 4
   have hl2 := zbz.1 k hvk' 4
   have hz2 := (z2m (fm k 4)).2
   have hd1 := zey mn h5 h6
   have hg1 := zim mn
   have hg2 := zim mx
   have z4 : (⟨#[42]⟩ : ByteArray).size = 1 := rfl
   have z5 : (⟨#[43]⟩ : ByteArray).size = 1 := rfl
   have z6 : (⟨#[63]⟩ : ByteArray).size = 1 := rfl
   have z7 : (⟨#[123]⟩ : ByteArray).size = 1 := rfl
   have z8 : (⟨#[125]⟩ : ByteArray).size = 1 := rfl
   have z9 : (⟨#[44]⟩ : ByteArray).size = 1 := rfl
   have z10 : (⟨#[44, 125]⟩ : ByteArray).size = 2 := rfl
   rw [show fm (.mk 4 mn mx [] [k]) w = brk (decide (w = 4)) (fm k 4 ++ z6a mn mx) by rw [fm, if_neg (by decide), if_neg (by decide), if_neg (by decide), fm1]]
   obtain ⟨op', mn', mx', rs', ks'⟩ := k
   rw [z5f] at hc
   generalize fm (.mk op' mn' mx' rs' ks') 4 = TL at *
   simp only [rx5, List.map_cons, List.map_nil, z2j] at *
   by_cases hx1 : mx = -1
   · subst hx1
     have hd2 := hd1
     by_cases hm0 : mn = 0
     · subst hm0
       by_cases hw4 : w = 4
       · rw [decide_eq_true hw4, hbr, z1q, show txE (z6a 0 (-1)) = ⟨#[42]⟩ from rfl]
         repeat' (first | (apply z0e; (first | refine z13 rfl (by decide) ?_ | (apply z09; (refine z00 (z0k rfl rfl rfl rfl) rfl rfl (by decide) ?_)) | (apply z08; (refine z00 (z03 rfl rfl) rfl rfl (by decide) ?_)) | (apply z1y; (refine z0j (z3b rfl rfl rfl rfl rfl (by decide)) ?_)) | refine z00 (z29 (by (try simp only [sa]); omega)) rfl rfl (by decide) ?_)) | (apply z0f; (first | refine z0z ?_ | apply z0c)) | (apply z0d; (first | apply z0h | apply z01 | refine z0o rfl ?_ | refine z0g rfl ?_ | apply z06 | apply z02 | apply z3w | apply z04 | refine z1o rfl (fun _ => ?_) (fun _ => ?_))) | (apply z3x; (first | (apply z1v; refine z2o mix (by kernel_rfl) ?_) | refine z47 rfl (by first | exact rfl | exact ⟨_, rfl, rfl, rfl⟩) (by decide) ?_ | (apply z1g; (first | refine z0n (z0k rfl rfl rfl rfl) (by first | exact rfl | exact ⟨_, rfl, rfl, rfl⟩) rfl rfl (by decide) ?_ | refine z0n (z0w rfl rfl) (by first | exact rfl | exact ⟨_, rfl, rfl, rfl⟩) rfl rfl (by decide) ?_)) | (apply z1b; (refine z0n (z03 rfl rfl) (by first | exact rfl | exact ⟨_, rfl, rfl, rfl⟩) rfl rfl (by decide) ?_)) | (apply z1w; (refine z0n (z0t (u := rx5 op' mn' mx' rs' ks') rfl (by omega) rfl rfl) (by first | exact rfl | exact ⟨_, rfl, rfl, rfl⟩) rfl rfl (by decide) ?_)) | (apply z2v; (refine z8z hc (by first | exact rfl | exact ⟨_, rfl, rfl, rfl⟩) rfl (by decide) ?_)))))
         all_goals try (exfalso; omega)
         all_goals exact z07 Tryz.func27 _ (z0a rfl rfl) ⟨rfl, rfl⟩
       · rw [decide_eq_false hw4, hbf, z1q, show txE (z6a 0 (-1)) = ⟨#[42]⟩ from rfl]
         repeat' (first | (apply z0e; (first | refine z13 rfl (by decide) ?_ | (apply z09; (refine z00 (z0k rfl rfl rfl rfl) rfl rfl (by decide) ?_)) | (apply z08; (refine z00 (z03 rfl rfl) rfl rfl (by decide) ?_)) | (apply z1y; (refine z0j (z3b rfl rfl rfl rfl rfl (by decide)) ?_)) | refine z00 (z29 (by (try simp only [sa]); omega)) rfl rfl (by decide) ?_)) | (apply z0f; (first | refine z0z ?_ | apply z0c)) | (apply z0d; (first | apply z0h | apply z01 | refine z0o rfl ?_ | refine z0g rfl ?_ | apply z06 | apply z02 | apply z3w | apply z04 | refine z1o rfl (fun _ => ?_) (fun _ => ?_))) | (apply z3x; (first | (apply z1v; refine z2o mix (by kernel_rfl) ?_) | refine z47 rfl (by first | exact rfl | exact ⟨_, rfl, rfl, rfl⟩) (by decide) ?_ | (apply z1g; (first | refine z0n (z0k rfl rfl rfl rfl) (by first | exact rfl | exact ⟨_, rfl, rfl, rfl⟩) rfl rfl (by decide) ?_ | refine z0n (z0w rfl rfl) (by first | exact rfl | exact ⟨_, rfl, rfl, rfl⟩) rfl rfl (by decide) ?_)) | (apply z1b; (refine z0n (z03 rfl rfl) (by first | exact rfl | exact ⟨_, rfl, rfl, rfl⟩) rfl rfl (by decide) ?_)) | (apply z1w; (refine z0n (z0t (u := rx5 op' mn' mx' rs' ks') rfl (by omega) rfl rfl) (by first | exact rfl | exact ⟨_, rfl, rfl, rfl⟩) rfl rfl (by decide) ?_)) | (apply z2v; (refine z8z hc (by first | exact rfl | exact ⟨_, rfl, rfl, rfl⟩) rfl (by decide) ?_)))))
         all_goals try (exfalso; omega)
         all_goals exact z07 Tryz.func27 _ (z0a rfl rfl) ⟨rfl, rfl⟩
     · by_cases hm1 : mn = 1
       · subst hm1
         by_cases hw4 : w = 4
         · rw [decide_eq_true hw4, hbr, z1q, show txE (z6a 1 (-1)) = ⟨#[43]⟩ from rfl]
           repeat' (first | (apply z0e; (first | refine z13 rfl (by decide) ?_ | (apply z09; (refine z00 (z0k rfl rfl rfl rfl) rfl rfl (by decide) ?_)) | (apply z08; (refine z00 (z03 rfl rfl) rfl rfl (by decide) ?_)) | (apply z1y; (refine z0j (z3b rfl rfl rfl rfl rfl (by decide)) ?_)) | refine z00 (z29 (by (try simp only [sa]); omega)) rfl rfl (by decide) ?_)) | (apply z0f; (first | refine z0z ?_ | apply z0c | refine z2e rfl rfl (by decide) ?_)) | (apply z0d; (first | apply z0h | apply z01 | refine z0o rfl ?_ | refine z0g rfl ?_ | apply z06 | apply z02 | apply z3w | apply z04 | refine z1o rfl (fun _ => ?_) (fun _ => ?_))) | (apply z3x; (first | (apply z1v; refine z2o mix (by kernel_rfl) ?_) | refine z47 rfl (by first | exact rfl | exact ⟨_, rfl, rfl, rfl⟩) (by decide) ?_ | (apply z1g; (first | refine z0n (z0k rfl rfl rfl rfl) (by first | exact rfl | exact ⟨_, rfl, rfl, rfl⟩) rfl rfl (by decide) ?_ | refine z0n (z0w rfl rfl) (by first | exact rfl | exact ⟨_, rfl, rfl, rfl⟩) rfl rfl (by decide) ?_)) | (apply z1b; (refine z0n (z03 rfl rfl) (by first | exact rfl | exact ⟨_, rfl, rfl, rfl⟩) rfl rfl (by decide) ?_)) | (apply z1w; (refine z0n (z0t (u := rx5 op' mn' mx' rs' ks') rfl (by omega) rfl rfl) (by first | exact rfl | exact ⟨_, rfl, rfl, rfl⟩) rfl rfl (by decide) ?_)) | (apply z2v; (refine z8z hc (by first | exact rfl | exact ⟨_, rfl, rfl, rfl⟩) rfl (by decide) ?_)))))
           all_goals try (exfalso; omega)
           all_goals exact z07 Tryz.func27 _ (z0a rfl rfl) ⟨rfl, rfl⟩
         · rw [decide_eq_false hw4, hbf, z1q, show txE (z6a 1 (-1)) = ⟨#[43]⟩ from rfl]
           repeat' (first | (apply z0e; (first | refine z13 rfl (by decide) ?_ | (apply z09; (refine z00 (z0k rfl rfl rfl rfl) rfl rfl (by decide) ?_)) | (apply z08; (refine z00 (z03 rfl rfl) rfl rfl (by decide) ?_)) | (apply z1y; (refine z0j (z3b rfl rfl rfl rfl rfl (by decide)) ?_)) | refine z00 (z29 (by (try simp only [sa]); omega)) rfl rfl (by decide) ?_)) | (apply z0f; (first | refine z0z ?_ | apply z0c | refine z2e rfl rfl (by decide) ?_)) | (apply z0d; (first | apply z0h | apply z01 | refine z0o rfl ?_ | refine z0g rfl ?_ | apply z06 | apply z02 | apply z3w | apply z04 | refine z1o rfl (fun _ => ?_) (fun _ => ?_))) | (apply z3x; (first | (apply z1v; refine z2o mix (by kernel_rfl) ?_) | refine z47 rfl (by first | exact rfl | exact ⟨_, rfl, rfl, rfl⟩) (by decide) ?_ | (apply z1g; (first | refine z0n (z0k rfl rfl rfl rfl) (by first | exact rfl | exact ⟨_, rfl, rfl, rfl⟩) rfl rfl (by decide) ?_ | refine z0n (z0w rfl rfl) (by first | exact rfl | exact ⟨_, rfl, rfl, rfl⟩) rfl rfl (by decide) ?_)) | (apply z1b; (refine z0n (z03 rfl rfl) (by first | exact rfl | exact ⟨_, rfl, rfl, rfl⟩) rfl rfl (by decide) ?_)) | (apply z1w; (refine z0n (z0t (u := rx5 op' mn' mx' rs' ks') rfl (by omega) rfl rfl) (by first | exact rfl | exact ⟨_, rfl, rfl, rfl⟩) rfl rfl (by decide) ?_)) | (apply z2v; (refine z8z hc (by first | exact rfl | exact ⟨_, rfl, rfl, rfl⟩) rfl (by decide) ?_)))))
           all_goals try (exfalso; omega)
           all_goals exact z07 Tryz.func27 _ (z0a rfl rfl) ⟨rfl, rfl⟩
       · have hE : txE (z6a mn (-1)) = (⟨#[123]⟩ ++ txE (dgs mn)) ++ ⟨#[44, 125]⟩ := by
          rw [z6a, if_neg (by omega), if_neg (by omega), if_neg (by omega), if_pos rfl, z1q, z1q]; rfl
         by_cases hw4 : w = 4
         · rw [decide_eq_true hw4, hbr, z1q, hE]
           repeat' (first | (apply z0e; (first | refine z13 rfl (by decide) ?_ | (apply z09; (refine z00 (z0k rfl rfl rfl rfl) rfl rfl (by decide) ?_)) | (apply z08; (refine z00 (z03 rfl rfl) rfl rfl (by decide) ?_)) | (apply z0l; (refine z1z hd1 rfl (by decide) ?_)) | (apply z1y; (refine z0j (z3b rfl rfl rfl rfl rfl (by decide)) ?_)) | refine z00 (z29 (by (try simp only [sa]); omega)) rfl rfl (by decide) ?_)) | (apply z0f; (first | refine z0z ?_ | apply z0c | refine z2e rfl rfl (by decide) ?_ | refine z0u rfl rfl (fun _ => ?_) (fun _ => ?_))) | (apply z0d; (first | apply z0h | apply z01 | refine z0o rfl ?_ | refine z0g rfl ?_ | apply z06 | apply z02 | apply z3w | apply z04 | refine z1o rfl (fun _ => ?_) (fun _ => ?_))) | (apply z3x; (first | (apply z1v; refine z2o mix (by kernel_rfl) ?_) | refine z47 rfl (by first | exact rfl | exact ⟨_, rfl, rfl, rfl⟩) (by decide) ?_ | (apply z1g; (first | refine z0n (z0k rfl rfl rfl rfl) (by first | exact rfl | exact ⟨_, rfl, rfl, rfl⟩) rfl rfl (by decide) ?_ | refine z0n (z0w rfl rfl) (by first | exact rfl | exact ⟨_, rfl, rfl, rfl⟩) rfl rfl (by decide) ?_)) | (apply z1b; (refine z0n (z03 rfl rfl) (by first | exact rfl | exact ⟨_, rfl, rfl, rfl⟩) rfl rfl (by decide) ?_)) | (apply z1w; (refine z0n (z0t (u := rx5 op' mn' mx' rs' ks') rfl (by omega) rfl rfl) (by first | exact rfl | exact ⟨_, rfl, rfl, rfl⟩) rfl rfl (by decide) ?_)) | (apply z2v; (refine z8z hc (by first | exact rfl | exact ⟨_, rfl, rfl, rfl⟩) rfl (by decide) ?_)))))
           all_goals try (exfalso; omega)
           all_goals exact z07 Tryz.func27 _ (z0a rfl rfl) ⟨rfl, rfl⟩
         · rw [decide_eq_false hw4, hbf, z1q, hE]
           repeat' (first | (apply z0e; (first | refine z13 rfl (by decide) ?_ | (apply z09; (refine z00 (z0k rfl rfl rfl rfl) rfl rfl (by decide) ?_)) | (apply z08; (refine z00 (z03 rfl rfl) rfl rfl (by decide) ?_)) | (apply z0l; (refine z1z hd1 rfl (by decide) ?_)) | (apply z1y; (refine z0j (z3b rfl rfl rfl rfl rfl (by decide)) ?_)) | refine z00 (z29 (by (try simp only [sa]); omega)) rfl rfl (by decide) ?_)) | (apply z0f; (first | refine z0z ?_ | apply z0c | refine z2e rfl rfl (by decide) ?_ | refine z0u rfl rfl (fun _ => ?_) (fun _ => ?_))) | (apply z0d; (first | apply z0h | apply z01 | refine z0o rfl ?_ | refine z0g rfl ?_ | apply z06 | apply z02 | apply z3w | apply z04 | refine z1o rfl (fun _ => ?_) (fun _ => ?_))) | (apply z3x; (first | (apply z1v; refine z2o mix (by kernel_rfl) ?_) | refine z47 rfl (by first | exact rfl | exact ⟨_, rfl, rfl, rfl⟩) (by decide) ?_ | (apply z1g; (first | refine z0n (z0k rfl rfl rfl rfl) (by first | exact rfl | exact ⟨_, rfl, rfl, rfl⟩) rfl rfl (by decide) ?_ | refine z0n (z0w rfl rfl) (by first | exact rfl | exact ⟨_, rfl, rfl, rfl⟩) rfl rfl (by decide) ?_)) | (apply z1b; (refine z0n (z03 rfl rfl) (by first | exact rfl | exact ⟨_, rfl, rfl, rfl⟩) rfl rfl (by decide) ?_)) | (apply z1w; (refine z0n (z0t (u := rx5 op' mn' mx' rs' ks') rfl (by omega) rfl rfl) (by first | exact rfl | exact ⟨_, rfl, rfl, rfl⟩) rfl rfl (by decide) ?_)) | (apply z2v; (refine z8z hc (by first | exact rfl | exact ⟨_, rfl, rfl, rfl⟩) rfl (by decide) ?_)))))
           all_goals try (exfalso; omega)
           all_goals exact z07 Tryz.func27 _ (z0a rfl rfl) ⟨rfl, rfl⟩
   · have h7' : mn ≤ mx ∧ mx ≤ 16 := by omega
     have hd2 := zey mx (by omega) h7'.2
     by_cases hm0 : mn = 0 ∧ mx = 1
     · obtain ⟨rfl, rfl⟩ := hm0
       by_cases hw4 : w = 4
       · rw [decide_eq_true hw4, hbr, z1q, show txE (z6a 0 1) = ⟨#[63]⟩ from rfl]
         repeat' (first | (apply z0e; (first | refine z13 rfl (by decide) ?_ | (apply z09; (refine z00 (z0k rfl rfl rfl rfl) rfl rfl (by decide) ?_)) | (apply z08; (refine z00 (z03 rfl rfl) rfl rfl (by decide) ?_)) | (apply z1y; (refine z0j (z3b rfl rfl rfl rfl rfl (by decide)) ?_)) | refine z00 (z29 (by (try simp only [sa]); omega)) rfl rfl (by decide) ?_)) | (apply z0f; (first | refine z0z ?_ | apply z0c | refine z2e rfl rfl (by decide) ?_)) | (apply z0d; (first | apply z0h | apply z01 | refine z0o rfl ?_ | refine z0g rfl ?_ | apply z06 | apply z02 | apply z3w | apply z04 | refine z1o rfl (fun _ => ?_) (fun _ => ?_))) | (apply z3x; (first | (apply z1v; refine z2o mix (by kernel_rfl) ?_) | refine z47 rfl (by first | exact rfl | exact ⟨_, rfl, rfl, rfl⟩) (by decide) ?_ | (apply z1g; (first | refine z0n (z0k rfl rfl rfl rfl) (by first | exact rfl | exact ⟨_, rfl, rfl, rfl⟩) rfl rfl (by decide) ?_ | refine z0n (z0w rfl rfl) (by first | exact rfl | exact ⟨_, rfl, rfl, rfl⟩) rfl rfl (by decide) ?_)) | (apply z1b; (refine z0n (z03 rfl rfl) (by first | exact rfl | exact ⟨_, rfl, rfl, rfl⟩) rfl rfl (by decide) ?_)) | (apply z1w; (refine z0n (z0t (u := rx5 op' mn' mx' rs' ks') rfl (by omega) rfl rfl) (by first | exact rfl | exact ⟨_, rfl, rfl, rfl⟩) rfl rfl (by decide) ?_)) | (apply z2v; (refine z8z hc (by first | exact rfl | exact ⟨_, rfl, rfl, rfl⟩) rfl (by decide) ?_)))))
         all_goals try (exfalso; omega)
         all_goals exact z07 Tryz.func27 _ (z0a rfl rfl) ⟨rfl, rfl⟩
       · rw [decide_eq_false hw4, hbf, z1q, show txE (z6a 0 1) = ⟨#[63]⟩ from rfl]
         repeat' (first | (apply z0e; (first | refine z13 rfl (by decide) ?_ | (apply z09; (refine z00 (z0k rfl rfl rfl rfl) rfl rfl (by decide) ?_)) | (apply z08; (refine z00 (z03 rfl rfl) rfl rfl (by decide) ?_)) | (apply z1y; (refine z0j (z3b rfl rfl rfl rfl rfl (by decide)) ?_)) | refine z00 (z29 (by (try simp only [sa]); omega)) rfl rfl (by decide) ?_)) | (apply z0f; (first | refine z0z ?_ | apply z0c | refine z2e rfl rfl (by decide) ?_)) | (apply z0d; (first | apply z0h | apply z01 | refine z0o rfl ?_ | refine z0g rfl ?_ | apply z06 | apply z02 | apply z3w | apply z04 | refine z1o rfl (fun _ => ?_) (fun _ => ?_))) | (apply z3x; (first | (apply z1v; refine z2o mix (by kernel_rfl) ?_) | refine z47 rfl (by first | exact rfl | exact ⟨_, rfl, rfl, rfl⟩) (by decide) ?_ | (apply z1g; (first | refine z0n (z0k rfl rfl rfl rfl) (by first | exact rfl | exact ⟨_, rfl, rfl, rfl⟩) rfl rfl (by decide) ?_ | refine z0n (z0w rfl rfl) (by first | exact rfl | exact ⟨_, rfl, rfl, rfl⟩) rfl rfl (by decide) ?_)) | (apply z1b; (refine z0n (z03 rfl rfl) (by first | exact rfl | exact ⟨_, rfl, rfl, rfl⟩) rfl rfl (by decide) ?_)) | (apply z1w; (refine z0n (z0t (u := rx5 op' mn' mx' rs' ks') rfl (by omega) rfl rfl) (by first | exact rfl | exact ⟨_, rfl, rfl, rfl⟩) rfl rfl (by decide) ?_)) | (apply z2v; (refine z8z hc (by first | exact rfl | exact ⟨_, rfl, rfl, rfl⟩) rfl (by decide) ?_)))))
         all_goals try (exfalso; omega)
         all_goals exact z07 Tryz.func27 _ (z0a rfl rfl) ⟨rfl, rfl⟩
     · by_cases hme : mn = mx
       · have hE : txE (z6a mn mx) = (⟨#[123]⟩ ++ txE (dgs mn)) ++ ⟨#[125]⟩ := by
          rw [z6a, if_neg (by omega), if_neg (by omega), if_neg (by omega), if_neg (by omega), if_pos hme, z1q, z1q]; rfl
         by_cases hw4 : w = 4
         · rw [decide_eq_true hw4, hbr, z1q, hE]
           repeat' (first | (apply z0e; (first | refine z13 rfl (by decide) ?_ | (apply z09; (refine z00 (z0k rfl rfl rfl rfl) rfl rfl (by decide) ?_)) | (apply z08; (refine z00 (z03 rfl rfl) rfl rfl (by decide) ?_)) | (apply z0l; (refine z1z hd1 rfl (by decide) ?_)) | (apply z1y; (refine z0j (z3b rfl rfl rfl rfl rfl (by decide)) ?_)) | refine z00 (z29 (by (try simp only [sa]); omega)) rfl rfl (by decide) ?_)) | (apply z0f; (first | refine z0z ?_ | apply z0c | refine z2e rfl rfl (by decide) ?_ | refine z0u rfl rfl (fun _ => ?_) (fun _ => ?_))) | (apply z0d; (first | apply z0h | apply z01 | refine z0g rfl ?_ | apply z06 | apply z02 | apply z3w | apply z04 | refine z1o rfl (fun _ => ?_) (fun _ => ?_))) | (apply z3x; (first | (apply z1v; refine z2o mix (by kernel_rfl) ?_) | refine z47 rfl (by first | exact rfl | exact ⟨_, rfl, rfl, rfl⟩) (by decide) ?_ | (apply z1g; (first | refine z0n (z0k rfl rfl rfl rfl) (by first | exact rfl | exact ⟨_, rfl, rfl, rfl⟩) rfl rfl (by decide) ?_ | refine z0n (z0w rfl rfl) (by first | exact rfl | exact ⟨_, rfl, rfl, rfl⟩) rfl rfl (by decide) ?_)) | (apply z1b; (refine z0n (z03 rfl rfl) (by first | exact rfl | exact ⟨_, rfl, rfl, rfl⟩) rfl rfl (by decide) ?_)) | (apply z1w; (refine z0n (z0t (u := rx5 op' mn' mx' rs' ks') rfl (by omega) rfl rfl) (by first | exact rfl | exact ⟨_, rfl, rfl, rfl⟩) rfl rfl (by decide) ?_)) | (apply z2v; (first | refine z8z hc (by first | exact rfl | exact ⟨_, rfl, rfl, rfl⟩) rfl (by decide) ?_ | refine z8z hd1 (by first | exact rfl | exact ⟨_, rfl, rfl, rfl⟩) rfl (by decide) ?_ | refine z8z hd2 (by first | exact rfl | exact ⟨_, rfl, rfl, rfl⟩) rfl (by decide) ?_)) | refine z0n (z29 (by (try simp only [sa]); omega)) (by first | exact rfl | exact ⟨_, rfl, rfl, rfl⟩) rfl rfl (by decide) ?_)))
           all_goals try (exfalso; omega)
           all_goals exact z07 Tryz.func27 _ (z0a rfl rfl) ⟨rfl, rfl⟩
         · rw [decide_eq_false hw4, hbf, z1q, hE]
           repeat' (first | (apply z0e; (first | refine z13 rfl (by decide) ?_ | (apply z09; (refine z00 (z0k rfl rfl rfl rfl) rfl rfl (by decide) ?_)) | (apply z08; (refine z00 (z03 rfl rfl) rfl rfl (by decide) ?_)) | (apply z0l; (refine z1z hd1 rfl (by decide) ?_)) | (apply z1y; (refine z0j (z3b rfl rfl rfl rfl rfl (by decide)) ?_)) | refine z00 (z29 (by (try simp only [sa]); omega)) rfl rfl (by decide) ?_)) | (apply z0f; (first | refine z0z ?_ | apply z0c | refine z2e rfl rfl (by decide) ?_ | refine z0u rfl rfl (fun _ => ?_) (fun _ => ?_))) | (apply z0d; (first | apply z0h | apply z01 | refine z0g rfl ?_ | apply z06 | apply z02 | apply z3w | apply z04 | refine z1o rfl (fun _ => ?_) (fun _ => ?_))) | (apply z3x; (first | (apply z1v; refine z2o mix (by kernel_rfl) ?_) | refine z47 rfl (by first | exact rfl | exact ⟨_, rfl, rfl, rfl⟩) (by decide) ?_ | (apply z1g; (first | refine z0n (z0k rfl rfl rfl rfl) (by first | exact rfl | exact ⟨_, rfl, rfl, rfl⟩) rfl rfl (by decide) ?_ | refine z0n (z0w rfl rfl) (by first | exact rfl | exact ⟨_, rfl, rfl, rfl⟩) rfl rfl (by decide) ?_)) | (apply z1b; (refine z0n (z03 rfl rfl) (by first | exact rfl | exact ⟨_, rfl, rfl, rfl⟩) rfl rfl (by decide) ?_)) | (apply z1w; (refine z0n (z0t (u := rx5 op' mn' mx' rs' ks') rfl (by omega) rfl rfl) (by first | exact rfl | exact ⟨_, rfl, rfl, rfl⟩) rfl rfl (by decide) ?_)) | (apply z2v; (first | refine z8z hc (by first | exact rfl | exact ⟨_, rfl, rfl, rfl⟩) rfl (by decide) ?_ | refine z8z hd1 (by first | exact rfl | exact ⟨_, rfl, rfl, rfl⟩) rfl (by decide) ?_ | refine z8z hd2 (by first | exact rfl | exact ⟨_, rfl, rfl, rfl⟩) rfl (by decide) ?_)) | refine z0n (z29 (by (try simp only [sa]); omega)) (by first | exact rfl | exact ⟨_, rfl, rfl, rfl⟩) rfl rfl (by decide) ?_)))
           all_goals try (exfalso; omega)
           all_goals exact z07 Tryz.func27 _ (z0a rfl rfl) ⟨rfl, rfl⟩
       · have hE : txE (z6a mn mx) = ((((⟨#[123]⟩ ++ txE (dgs mn)) ++ ⟨#[44]⟩) ++ txE (dgs mx)) ++ ⟨#[125]⟩) := by
          rw [z6a, if_neg (by omega), if_neg (by omega), if_neg (by omega), if_neg (by omega), if_neg hme, z1q, z1q, z1q, z1q]; rfl
         by_cases hw4 : w = 4
         · rw [decide_eq_true hw4, hbr, z1q, hE]
           repeat' (first | (apply z0e; (first | refine z13 rfl (by decide) ?_ | (apply z09; (refine z00 (z0k rfl rfl rfl rfl) rfl rfl (by decide) ?_)) | (apply z08; (refine z00 (z03 rfl rfl) rfl rfl (by decide) ?_)) | (apply z0l; (refine z1z hd1 rfl (by decide) ?_)) | (apply z1y; (refine z0j (z3b rfl rfl rfl rfl rfl (by decide)) ?_)) | refine z00 (z29 (by (try simp only [sa]); omega)) rfl rfl (by decide) ?_)) | (apply z0f; (first | refine z0z ?_ | apply z0c | refine z2e rfl rfl (by decide) ?_ | refine z0u rfl rfl (fun _ => ?_) (fun _ => ?_))) | (apply z0d; (first | apply z0h | apply z01 | refine z0g rfl ?_ | apply z06 | apply z02 | apply z3w | apply z04 | refine z1o rfl (fun _ => ?_) (fun _ => ?_))) | (apply z3x; (first | (apply z1v; refine z2o mix (by kernel_rfl) ?_) | refine z47 rfl (by first | exact rfl | exact ⟨_, rfl, rfl, rfl⟩) (by decide) ?_ | (apply z1g; (first | refine z0n (z0k rfl rfl rfl rfl) (by first | exact rfl | exact ⟨_, rfl, rfl, rfl⟩) rfl rfl (by decide) ?_ | refine z0n (z0w rfl rfl) (by first | exact rfl | exact ⟨_, rfl, rfl, rfl⟩) rfl rfl (by decide) ?_)) | (apply z1b; (refine z0n (z03 rfl rfl) (by first | exact rfl | exact ⟨_, rfl, rfl, rfl⟩) rfl rfl (by decide) ?_)) | (apply z1w; (refine z0n (z0t (u := rx5 op' mn' mx' rs' ks') rfl (by omega) rfl rfl) (by first | exact rfl | exact ⟨_, rfl, rfl, rfl⟩) rfl rfl (by decide) ?_)) | (apply z2v; (first | refine z8z hc (by first | exact rfl | exact ⟨_, rfl, rfl, rfl⟩) rfl (by decide) ?_ | refine z8z hd1 (by first | exact rfl | exact ⟨_, rfl, rfl, rfl⟩) rfl (by decide) ?_ | refine z8z hd2 (by first | exact rfl | exact ⟨_, rfl, rfl, rfl⟩) rfl (by decide) ?_)) | refine z0n (z29 (by (try simp only [sa]); omega)) (by first | exact rfl | exact ⟨_, rfl, rfl, rfl⟩) rfl rfl (by decide) ?_)))
           all_goals try (exfalso; omega)
           all_goals exact z07 Tryz.func27 _ (z0a rfl rfl) ⟨rfl, rfl⟩
         · rw [decide_eq_false hw4, hbf, z1q, hE]
           repeat' (first | (apply z0e; (first | refine z13 rfl (by decide) ?_ | (apply z09; (refine z00 (z0k rfl rfl rfl rfl) rfl rfl (by decide) ?_)) | (apply z08; (refine z00 (z03 rfl rfl) rfl rfl (by decide) ?_)) | (apply z0l; (refine z1z hd1 rfl (by decide) ?_)) | (apply z1y; (refine z0j (z3b rfl rfl rfl rfl rfl (by decide)) ?_)) | refine z00 (z29 (by (try simp only [sa]); omega)) rfl rfl (by decide) ?_)) | (apply z0f; (first | refine z0z ?_ | apply z0c | refine z2e rfl rfl (by decide) ?_ | refine z0u rfl rfl (fun _ => ?_) (fun _ => ?_))) | (apply z0d; (first | apply z0h | apply z01 | refine z0g rfl ?_ | apply z06 | apply z02 | apply z3w | apply z04 | refine z1o rfl (fun _ => ?_) (fun _ => ?_))) | (apply z3x; (first | (apply z1v; refine z2o mix (by kernel_rfl) ?_) | refine z47 rfl (by first | exact rfl | exact ⟨_, rfl, rfl, rfl⟩) (by decide) ?_ | (apply z1g; (first | refine z0n (z0k rfl rfl rfl rfl) (by first | exact rfl | exact ⟨_, rfl, rfl, rfl⟩) rfl rfl (by decide) ?_ | refine z0n (z0w rfl rfl) (by first | exact rfl | exact ⟨_, rfl, rfl, rfl⟩) rfl rfl (by decide) ?_)) | (apply z1b; (refine z0n (z03 rfl rfl) (by first | exact rfl | exact ⟨_, rfl, rfl, rfl⟩) rfl rfl (by decide) ?_)) | (apply z1w; (refine z0n (z0t (u := rx5 op' mn' mx' rs' ks') rfl (by omega) rfl rfl) (by first | exact rfl | exact ⟨_, rfl, rfl, rfl⟩) rfl rfl (by decide) ?_)) | (apply z2v; (first | refine z8z hc (by first | exact rfl | exact ⟨_, rfl, rfl, rfl⟩) rfl (by decide) ?_ | refine z8z hd1 (by first | exact rfl | exact ⟨_, rfl, rfl, rfl⟩) rfl (by decide) ?_ | refine z8z hd2 (by first | exact rfl | exact ⟨_, rfl, rfl, rfl⟩) rfl (by decide) ?_)) | refine z0n (z29 (by (try simp only [sa]); omega)) (by first | exact rfl | exact ⟨_, rfl, rfl, rfl⟩) rfl rfl (by decide) ?_)))
           all_goals try (exfalso; omega)
           all_goals exact z07 Tryz.func27 _ (z0a rfl rfl) ⟨rfl, rfl⟩
end Go.Proofs.YtjmbjgecfpggdaaGreatDoor
