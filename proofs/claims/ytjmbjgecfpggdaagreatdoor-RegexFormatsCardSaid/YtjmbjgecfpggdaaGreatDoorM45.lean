/- A part of the proof: G45. -/
import Derived.Test.YtjmbjgecfpggdaaGreatDoorM44
import Derived.Test.YtjmbjgecfpggdaaGreatDoorRz
import Derived.Test.YtjmbjgecfpggdaaGreatDoorRb
set_option linter.all false
set_option linter.unusedVariables false
set_option linter.unusedSimpArgs false
namespace Go.Proofs.YtjmbjgecfpggdaaGreatDoor
open Go.Ab Go.Rx
set_option maxHeartbeats 20000000
set_option maxRecDepth 100000
attribute [local irreducible] Run Ops Op1 z2r Val Tr z1n z36 NF Rel z5q z5r zad
abbrev bl (s : ByteArray) : List UInt8 := s.data.toList
theorem zsz (a b : ByteArray) : bl (a ++ b) = bl a ++ bl b := by simp [bl, ByteArray.data_append]
theorem zp8 {a b : ByteArray} (h : bl a = bl b) : a = b := by
 cases a; cases b; simp only [bl, Array.toList_inj] at h; rw [h]
theorem zl9 (a b : List Int) : bl (txE (a ++ b)) = bl (txE a) ++ bl (txE b) := by rw [z1q, zsz]
theorem zw9 : ∀ ks : List Rx, jnB (ks.map fun k => txE (fm k 2)) ⟨#[]⟩ = txE (fmC ks)
 | [] => rfl
 | k :: ks => by
  have hT : ∀ ks : List Rx, Lib.joinTail [] ((ks.map fun k => txE (fm k 2)).map (·.data.toList)) = bl (txE (fmC ks)) := fun ks => by
   induction ks with
   | nil => rfl
   | cons k ks ih =>
    rw [fmC, zl9, ← ih, List.map_cons, List.map_cons, Lib.joinTail, List.map_cons, List.flatten_cons]; rfl
  refine zp8 ?_
  rw [jnB, fmC, zl9, List.map_cons, List.map_cons, Lib.join_cons]
  show _ ++ Lib.joinTail [] _ = _
  rw [hT]
theorem zw6 : ∀ ks : List Rx, jnB (ks.map fun k => txE (fm k 3)) ⟨#[124]⟩ = txE (fmU ks)
 | [] => rfl
 | k :: ks => by
  have hT : ∀ ks : List Rx, Lib.joinTail [124] ((ks.map fun k => txE (fm k 3)).map (·.data.toList)) = bl (txE (fmV ks)) := fun ks => by
   induction ks with
   | nil => rfl
   | cons k ks ih =>
    rw [fmV, zl9, zl9, ← ih, List.map_cons, List.map_cons, Lib.joinTail, List.map_cons, List.flatten_cons, List.append_assoc]; rfl
  refine zp8 ?_
  rw [jnB, fmU, zl9, List.map_cons, List.map_cons, Lib.join_cons]
  show _ ++ Lib.joinTail [124] _ = _
  rw [hT]
def txR : Rx → Int → ByteArray × Bool
 | .mk op mn mx rs ks, w => if op = 1 then (txE (z7w rs), !rs.any txl) else if zd0 ks = true then (txE (fm (.mk op mn mx rs ks) w), true) else (⟨#[]⟩, false)
theorem zpa {e : Rx} (hv : vns e = true) (w : Int) : (txR e w).2 = wrt e := by
 obtain ⟨op, mn, mx, rs, ks⟩ := e
 rw [vns, Bool.and_eq_true] at hv
 rw [txR, wrt]
 by_cases o1 : op = 1
 · rcases z43 hv.1 with ⟨_, _, _, rfl, _⟩ | ⟨h, _⟩ | ⟨h, _⟩ | ⟨h, _⟩
   · rw [if_pos o1, zd0, Bool.and_true]
   all_goals omega
 · rw [if_neg o1]
   have hrs : rs = [] := by
    have h := hv.1
    rw [vn, if_neg o1] at h
    split at h
    · simp only [Bool.and_eq_true, decide_eq_true_eq] at h; exact List.eq_nil_of_length_eq_zero h.1.1.2
    · split at h
      · simp only [Bool.and_eq_true, decide_eq_true_eq] at h; exact List.eq_nil_of_length_eq_zero h.1.1.2
      · split at h
        · simp only [Bool.and_eq_true, decide_eq_true_eq] at h; exact List.eq_nil_of_length_eq_zero h.1.1.1.1
        · cases h
   subst hrs
   cases zd0 ks <;> simp
theorem zp3 {e : Rx} (hv : vns e = true) (w : Int) (h : wrt e = true) : (txR e w).1 = txE (fm e w) := by
 obtain ⟨op, mn, mx, rs, ks⟩ := e
 rw [wrt, Bool.and_eq_true] at h
 rw [txR]
 by_cases o1 : op = 1
 · rw [if_pos o1, fm, if_pos o1]
 · rw [if_neg o1, if_pos h.2]
theorem zf6 : ∀ {ks : List Rx} {i : Nat} {k : Rx}, ks[i]? = some k → zd0 (ks.take (i + 1)) = (zd0 (ks.take i) && wrt k)
 | [], i, k, h => by simp at h
 | x :: ks, 0, k, h => by
  simp only [List.getElem?_cons_zero, Option.some.injEq] at h
  subst h
  simp [List.take_succ_cons, zd0]
 | x :: ks, i + 1, k, h => by
  rw [List.getElem?_cons_succ] at h
  rw [List.take_succ_cons, List.take_succ_cons, zd0, zd0, zf6 h, Bool.and_assoc]
theorem zn5 {ks : List Rx} {k : Rx} (h : k ∈ ks) (hk : wrt k = false) : zd0 ks = false := by
 rw [Bool.eq_false_iff]
 intro h2
 have := zdk h2 k h
 rw [hk] at this; cases this
theorem zgo : ∀ {ks : List Rx} {k : Rx}, k ∈ ks → sz k ≤ szL ks
 | [], k, h => by simp at h
 | x :: ks, k, h => by
  rw [List.mem_cons] at h
  rw [szL]
  rcases h with rfl | h
  · omega
  · have := zgo h; omega
abbrev sB (s : ByteArray) : List D := [.lit (.string s)]
abbrev txP (e : Rx) (w : Int) : PV := .tup [S (txR e w).1, B (txR e w).2]
theorem zsk : ∀ e : Rx, fit e → vns e = true → sz e ≤ 200 → ∀ w : Int, z1n Tryz.prog 25 [.d (Drx e), I .i64 w] (txP e w) := by
 refine Rx.ind' fun op mn mx rs ks ih hfit hv hsz w => ?_
 obtain ⟨hf1, hf2, hf3⟩ := hfit
 have hvn := hv
 rw [vns, Bool.and_eq_true] at hvn
 obtain ⟨hvn, hvk⟩ := hvn
 rw [sz] at hsz
 refine z1u fun H => ?_
 by_cases o1 : op = 1
 · subst o1
   have hrs : za3 rs = true := by
    rw [vn, if_pos rfl, Bool.and_eq_true] at hvn; exact hvn.2
   have c1 := zvr rs hrs
   have c2 := zj6 rs hf1
   rw [txP, txR, if_pos rfl, z2h]
   generalize txE (z7w rs) = T at *
   generalize rs.any txl = b at *
   refine z16 Tryz.func25 (by kernel_rfl) rfl (by simp) ?_
   dsimp only [Tryz.f25]
   repeat' (first | (apply z0e; (first | refine z13 rfl (by decide) ?_ | (apply z09; (refine z00 (z0k rfl rfl rfl rfl) rfl rfl (by decide) ?_)) | (apply z08; (refine z00 (z03 rfl rfl) rfl rfl (by decide) ?_)) | (apply z1y; (refine z0j (z3b rfl rfl rfl rfl rfl (by decide)) ?_)))) | (apply z0f; (first | refine z0z ?_ | apply z0c)) | (apply z0d; (first | apply z0h | apply z01 | refine z0o rfl ?_ | apply z3w)) | (apply z3x; (first | (apply z1v; refine z2o mix (by kernel_rfl) ?_) | refine z47 rfl (by first | exact rfl | exact ⟨_, rfl, rfl, rfl⟩) (by decide) ?_ | (apply z1g; (refine z0n (z0k rfl rfl rfl rfl) (by first | exact rfl | exact ⟨_, rfl, rfl, rfl⟩) rfl rfl (by decide) ?_)) | (apply z1b; (refine z0n (z03 rfl rfl) (by first | exact rfl | exact ⟨_, rfl, rfl, rfl⟩) rfl rfl (by decide) ?_)) | (apply z2v; (first | refine z8z c1 (by first | exact rfl | exact ⟨_, rfl, rfl, rfl⟩) rfl (by decide) ?_ | refine z8z c2 (by first | exact rfl | exact ⟨_, rfl, rfl, rfl⟩) rfl (by decide) ?_)))))
   all_goals try (exfalso; omega)
   all_goals exact z07 Tryz.func25 _ (z1h rfl rfl rfl) ⟨rfl, rfl⟩
 have hlen := zbz.1 (.mk op mn mx rs ks) hv w
 rw [sz] at hlen
 have hsub : ∀ k ∈ ks, sz k ≤ szL ks := fun k hk => zgo hk
 have hkl := z7e ks
 refine z16 Tryz.func25 (by kernel_rfl) rfl (by simp) ?_
 dsimp only [Tryz.f25]
 rw [txP, txR, if_neg o1, z2h]
 repeat' (first | (apply z0e; (first | refine z13 rfl (by decide) ?_ | (apply z09; (refine z00 (z0k rfl rfl rfl rfl) rfl rfl (by decide) ?_)) | (apply z08; (refine z00 (z03 rfl rfl) rfl rfl (by decide) ?_)) | (apply z1y; (refine z0j (z3b rfl rfl rfl rfl rfl (by decide)) ?_)))) | (apply z0f; (first | refine z0z ?_ | apply z0c)) | (apply z0d; (first | (refine zaa (A := .seq (.region 4 _ _) _) ?_) | apply z0h | apply z01 | apply z06 | apply z3w | refine z1o rfl (fun _ => ?_) (fun _ => ?_))) | (apply z3x; (first | (apply z1g; (refine z0n (z0k rfl rfl rfl rfl) (by first | exact rfl | exact ⟨_, rfl, rfl, rfl⟩) rfl rfl (by decide) ?_)) | (apply z1b; (refine z0n (z03 rfl rfl) (by first | exact rfl | exact ⟨_, rfl, rfl, rfl⟩) rfl rfl (by decide) ?_)))))
 all_goals try (exfalso; omega)
 refine z89 ?_
 refine z4l 6 1000 9 1 rfl rfl rfl ?_
 repeat' (first | (apply z0e; (first | refine z13 rfl (by decide) ?_ | (apply z09; (refine z00 (z0k rfl rfl rfl rfl) rfl rfl (by decide) ?_)) | (apply z08; (refine z00 (z03 rfl rfl) rfl rfl (by decide) ?_)) | (apply z1k; (refine z00 (z1p rfl) rfl rfl (by decide) ?_)))) | (apply z0f; (first | refine z0z ?_ | apply z0c)) | (apply z0d; (first | apply z0h | apply z01 | apply z02)))
 refine z2b ?_
 refine z0y (z3e (fun q : Nat => ⟨75, [(1, I .i64 w), (2, .ptr (0, 2) 0), (6, .ref (0, 1000)), (24, .d (.slice (ks.map rxc))), (25, I .i64 ks.length), (26, I .i64 (q : Nat))], [(2, .box ((rx5 op mn mx rs ks).map .d)), (1000, .row 9 1 (((ks.take q).map fun k => txE (fm k op)).map sB))], H⟩) (fun q => q ≤ ks.length ∧ zd0 (ks.take q) = true) (fun q => ks.length - q) ?_ 0 ⟨Nat.zero_le _, rfl⟩) rfl rfl
 rintro i ⟨i1, i2⟩ ihl
 by_cases hlt : i < ks.length
 · obtain ⟨k, hk⟩ : ∃ k, ks[i]? = some k := ⟨_, List.getElem?_eq_getElem hlt⟩
   have hkm := List.mem_of_getElem? hk
   have hvk' := z3t hvk k hkm
   have hszk := hsub k hkm
   have hc := ih k hkm (z3o hf3 k hkm) hvk' (by omega) op
   have hok := zpa hvk' op
   have htx := zp3 hvk' op
   have hwt := zf6 hk
   rw [i2, Bool.true_and] at hwt
   have hbad := zn5 hkm
   rw [txP, hok] at hc
   have htk : ((ks.take (i + 1)).map fun k => txE (fm k op)) = ((ks.take i).map fun k => txE (fm k op)) ++ [txE (fm k op)] := by rw [z4r hk, List.map_append]; rfl
   have hll : ((ks.take i).map fun k => txE (fm k op)).length ≤ ks.length := by rw [List.length_map, List.length_take]; omega
   cases hw : wrt k with
   | true =>
    rw [hw] at hc hwt
    rw [htx hw] at hc
    have ihl' := ihl (i + 1) ⟨by omega, hwt⟩ (by omega)
    rw [htk] at ihl'
    clear htk hok htx hbad
    generalize (ks.take i).map (fun k => txE (fm k op)) = Q at *
    obtain ⟨op', mn', mx', rs', ks'⟩ := k
    have hix := z3l hk
    rw [z2h] at hc
    generalize txE (fm (.mk op' mn' mx' rs' ks') op) = T at *
    repeat' (first | (apply z0e; (first | refine z13 rfl (by decide) ?_ | (apply z09; (first | refine z00 (z0k rfl rfl rfl rfl) rfl rfl (by decide) ?_ | refine z00 (z0w rfl rfl) rfl rfl (by decide) ?_ | refine z00 (z1a rfl rfl rfl rfl) rfl rfl (by decide) ?_)) | (apply z08; (refine z00 (z03 rfl rfl) rfl rfl (by decide) ?_)) | (apply z1c; (refine z00 (z0t (ys := ks.map rxc) rfl (by omega) hix rfl) rfl rfl (by decide) ?_)) | (apply z19; (refine z00 (z1e (z1s (by omega) (by omega))) rfl rfl (by decide) ?_)) | (apply z1k; (refine z4s (g := sB) rfl rfl T rfl rfl rfl rfl rfl rfl rfl (by decide) (by omega) ?_)) | (apply z0l; (refine z1z hc rfl (by decide) ?_)) | (apply z0i; (refine z0b rfl rfl rfl rfl rfl rfl ?_)) | (apply z0q; (refine z0j (z0p rfl rfl (by decide)) ?_)) | (apply z3p; (refine z3n rfl rfl rfl rfl rfl rfl rfl rfl (by decide) ?_)))) | (apply z0f; (first | refine z0z ?_ | apply z0c)) | (apply z0d; (first | apply z0h | apply z01 | refine z0g rfl ?_ | apply z06 | apply z02 | apply z3w | apply z04 | refine z1o rfl (fun _ => ?_) (fun _ => ?_) | refine z0r rfl ?_)) | (apply z3x; (refine z47 rfl (by first | exact rfl | exact ⟨_, rfl, rfl, rfl⟩) (by decide) ?_)))
    all_goals try (exfalso; omega)
    all_goals refine z73 42 1000 rfl rfl ?_
    all_goals exact z0y ihl' rfl rfl
   | false =>
    rw [hw] at hc
    rw [if_neg (by rw [hbad hw]; decide)]
    generalize (txR k op).1 = T at *
    obtain ⟨op', mn', mx', rs', ks'⟩ := k
    have hix := z3l hk
    rw [z2h] at hc
    repeat' (first | (apply z0e; (first | refine z13 rfl (by decide) ?_ | (apply z09; (first | refine z00 (z0k rfl rfl rfl rfl) rfl rfl (by decide) ?_ | refine z00 (z0w rfl rfl) rfl rfl (by decide) ?_ | refine z00 (z1a rfl rfl rfl rfl) rfl rfl (by decide) ?_)) | (apply z08; (refine z00 (z03 rfl rfl) rfl rfl (by decide) ?_)) | (apply z1c; (refine z00 (z0t (ys := ks.map rxc) rfl (by omega) hix rfl) rfl rfl (by decide) ?_)) | (apply z0l; (refine z1z hc rfl (by decide) ?_)) | (apply z0i; (refine z0b rfl rfl rfl rfl rfl rfl ?_)) | (apply z0q; (refine z0j (z0p rfl rfl (by decide)) ?_)))) | (apply z0f; (first | refine z0z ?_ | apply z0c)) | (apply z0d; (first | apply z0h | apply z01 | refine z0o rfl ?_ | apply z06 | apply z02 | apply z3w | refine z1o rfl (fun _ => ?_) (fun _ => ?_) | refine z0r rfl ?_)) | (apply z3x; (refine z47 rfl (by first | exact rfl | exact ⟨_, rfl, rfl, rfl⟩) (by decide) ?_)))
    all_goals try (exfalso; omega)
    all_goals exact z07 Tryz.func25 _ (z1h rfl rfl rfl) ⟨rfl, rfl⟩
 · obtain rfl : i = ks.length := by omega
   rw [List.take_length] at *
   rw [if_pos i2]
   clear ihl
   repeat' (first | (apply z0e; (refine z13 rfl (by decide) ?_)) | (apply z0f; (first | refine z0z ?_ | apply z0c)) | (apply z0d; (first | (refine zaa (A := .region 12 _ _) ?_) | apply z0h | apply z01 | apply z06 | apply z02 | refine z1o rfl (fun _ => ?_) (fun _ => ?_) | refine z0r rfl ?_)))
   all_goals try (exfalso; omega)
   refine z89 ?_
   refine z4u 1000 rfl ?_
   obtain ⟨lC, lU, lV, l1⟩ := zbz.2 ks hvk
   have sa : ∀ a b : ByteArray, (a ++ b).size = a.size + b.size := fun a b => by simp
   have z1 : (⟨#[40]⟩ : ByteArray).size = 1 := rfl
   have z2 : (⟨#[41]⟩ : ByteArray).size = 1 := rfl
   have hbr : ∀ l : List Int, txE (brk true l) = ((⟨#[40]⟩ : ByteArray) ++ txE l) ++ ⟨#[41]⟩ := fun l => by
    rw [brk, if_pos rfl, z1q, z1q]; rfl
   have hbf : ∀ l : List Int, txE (brk false l) = txE l := fun l => by rw [brk, if_neg (by decide)]
   rcases z43 hvn with ⟨h, _⟩ | ⟨rfl, rfl, rfl, rfl, _⟩ | ⟨rfl, rfl, rfl, rfl, _⟩ | ⟨rfl, rfl, h4, h5, h6, h7⟩
   · exact absurd h o1
   · have hz := (z2m (fmC ks)).2
     have hj := zov (ks.map fun k => txE (fm k 2)) ⟨#[]⟩ (by rw [List.length_map]; omega) (by rw [zw9]; omega)
     rw [zw9] at hj
     have hfm : fm (.mk 2 0 0 [] ks) w = brk (decide (w = 4)) (fmC ks) := by rw [fm, if_neg (by decide), if_pos rfl]
     rw [hfm]
     clear hfm hlen
     by_cases hw4 : w = 4
     · rw [decide_eq_true hw4, hbr]
       repeat' (first | (apply z0e; (first | refine z13 rfl (by decide) ?_ | (apply z09; (refine z00 (z0k rfl rfl rfl rfl) rfl rfl (by decide) ?_)) | (apply z08; (refine z00 (z03 rfl rfl) rfl rfl (by decide) ?_)) | (apply z0l; (refine z1z hj rfl (by decide) ?_)) | refine z00 (z29 (by (try simp only [sa]); omega)) rfl rfl (by decide) ?_)) | (apply z0f; (first | refine z0z ?_ | apply z0c)) | (apply z0d; (first | apply z0h | apply z01 | refine z0o rfl ?_ | apply z06 | apply z02 | apply z04 | refine z1o rfl (fun _ => ?_) (fun _ => ?_))))
       all_goals try (exfalso; omega)
       all_goals exact z07 Tryz.func25 _ (z1h rfl rfl rfl) ⟨rfl, rfl⟩
     · rw [decide_eq_false hw4, hbf]
       repeat' (first | (apply z0e; (first | refine z13 rfl (by decide) ?_ | (apply z09; (refine z00 (z0k rfl rfl rfl rfl) rfl rfl (by decide) ?_)) | (apply z08; (refine z00 (z03 rfl rfl) rfl rfl (by decide) ?_)) | (apply z0l; (refine z1z hj rfl (by decide) ?_)) | refine z00 (z29 (by (try simp only [sa]); omega)) rfl rfl (by decide) ?_)) | (apply z0f; (first | refine z0z ?_ | apply z0c)) | (apply z0d; (first | apply z0h | apply z01 | refine z0o rfl ?_ | apply z06 | apply z02 | apply z04 | refine z1o rfl (fun _ => ?_) (fun _ => ?_))))
       all_goals try (exfalso; omega)
       all_goals exact z07 Tryz.func25 _ (z1h rfl rfl rfl) ⟨rfl, rfl⟩
   · have hz := (z2m (fmU ks)).2
     have hj := zov (ks.map fun k => txE (fm k 3)) ⟨#[124]⟩ (by rw [List.length_map]; omega) (by rw [zw6]; omega)
     rw [zw6] at hj
     have hfm : fm (.mk 3 0 0 [] ks) w = brk (decide (w = 4) || decide (w = 2)) (fmU ks) := by rw [fm, if_neg (by decide), if_neg (by decide), if_pos rfl]
     rw [hfm]
     clear hfm hlen
     by_cases hw4 : w = 4
     · rw [decide_eq_true hw4, Bool.true_or, hbr]
       repeat' (first | (apply z0e; (first | refine z13 rfl (by decide) ?_ | (apply z09; (refine z00 (z0k rfl rfl rfl rfl) rfl rfl (by decide) ?_)) | (apply z08; (refine z00 (z03 rfl rfl) rfl rfl (by decide) ?_)) | (apply z0l; (refine z1z hj rfl (by decide) ?_)) | refine z00 (z29 (by (try simp only [sa]); omega)) rfl rfl (by decide) ?_)) | (apply z0f; (first | refine z0z ?_ | apply z0c | refine z2e rfl rfl (by decide) ?_ | refine z0u rfl rfl (fun _ => ?_) (fun _ => ?_))) | (apply z0d; (first | apply z0h | apply z01 | refine z0o rfl ?_ | refine z0g rfl ?_ | apply z06 | apply z02 | apply z04 | refine z1o rfl (fun _ => ?_) (fun _ => ?_))))
       all_goals try (exfalso; omega)
       all_goals exact z07 Tryz.func25 _ (z1h rfl rfl rfl) ⟨rfl, rfl⟩
     · rw [decide_eq_false hw4, Bool.false_or]
       by_cases hw2 : w = 2
       · rw [decide_eq_true hw2, hbr]
         repeat' (first | (apply z0e; (first | refine z13 rfl (by decide) ?_ | (apply z09; (refine z00 (z0k rfl rfl rfl rfl) rfl rfl (by decide) ?_)) | (apply z08; (refine z00 (z03 rfl rfl) rfl rfl (by decide) ?_)) | (apply z0l; (refine z1z hj rfl (by decide) ?_)) | refine z00 (z29 (by (try simp only [sa]); omega)) rfl rfl (by decide) ?_)) | (apply z0f; (first | refine z0z ?_ | apply z0c | refine z2e rfl rfl (by decide) ?_ | refine z0u rfl rfl (fun _ => ?_) (fun _ => ?_))) | (apply z0d; (first | apply z0h | apply z01 | refine z0o rfl ?_ | refine z0g rfl ?_ | apply z06 | apply z02 | apply z04 | refine z1o rfl (fun _ => ?_) (fun _ => ?_))))
         all_goals try (exfalso; omega)
         all_goals exact z07 Tryz.func25 _ (z1h rfl rfl rfl) ⟨rfl, rfl⟩
       · rw [decide_eq_false hw2, hbf]
         repeat' (first | (apply z0e; (first | refine z13 rfl (by decide) ?_ | (apply z09; (refine z00 (z0k rfl rfl rfl rfl) rfl rfl (by decide) ?_)) | (apply z08; (refine z00 (z03 rfl rfl) rfl rfl (by decide) ?_)) | (apply z0l; (refine z1z hj rfl (by decide) ?_)) | refine z00 (z29 (by (try simp only [sa]); omega)) rfl rfl (by decide) ?_)) | (apply z0f; (first | refine z0z ?_ | apply z0c | refine z2e rfl rfl (by decide) ?_ | refine z0u rfl rfl (fun _ => ?_) (fun _ => ?_))) | (apply z0d; (first | apply z0h | apply z01 | refine z0o rfl ?_ | refine z0g rfl ?_ | apply z06 | apply z02 | apply z04 | refine z1o rfl (fun _ => ?_) (fun _ => ?_))))
         all_goals try (exfalso; omega)
         all_goals exact z07 Tryz.func25 _ (z1h rfl rfl rfl) ⟨rfl, rfl⟩
   · obtain ⟨k, rfl⟩ : ∃ k, ks = [k] := by
      match ks, h4 with
      | [k], _ => exact ⟨k, rfl⟩
     have hct := zml mn mx h5 h6 h7
     have hz1 := (z2m (fm k 4)).2
     have hz2 := (z2m (z6a mn mx)).2
     have hz3 := zm4 mn mx
     rw [fm1] at l1
     have hfm : fm (.mk 4 mn mx [] [k]) w = brk (decide (w = 4)) (fm k 4 ++ z6a mn mx) := by rw [fm, if_neg (by decide), if_neg (by decide), if_neg (by decide), fm1]
     have h0 : (([k] : List Rx).map fun k => txE (fm k 4))[((0 : Int)).toNat]? = some (txE (fm k 4)) := rfl
     rw [hfm]
     clear hfm hlen
     by_cases hw4 : w = 4
     · rw [decide_eq_true hw4, hbr, z1q]
       repeat' (first | (apply z0e; (first | refine z13 rfl (by decide) ?_ | (apply z09; (refine z00 (z0k rfl rfl rfl rfl) rfl rfl (by decide) ?_)) | (apply z08; (refine z00 (z03 rfl rfl) rfl rfl (by decide) ?_)) | refine z00 (z29 (by (try simp only [sa]); omega)) rfl rfl (by decide) ?_)) | (apply z0f; (first | refine z0z ?_ | apply z0c)) | (apply z0d; (first | apply z0h | apply z01 | refine z0g rfl ?_ | apply z06 | apply z02 | apply z3w | apply z04 | refine z1o rfl (fun _ => ?_) (fun _ => ?_))) | (apply z3x; (first | (apply z1v; refine z2o mix (by kernel_rfl) ?_) | refine z47 rfl (by first | exact rfl | exact ⟨_, rfl, rfl, rfl⟩) (by decide) ?_ | (apply z1g; (first | refine z0n (z0k rfl rfl rfl rfl) (by first | exact rfl | exact ⟨_, rfl, rfl, rfl⟩) rfl rfl (by decide) ?_ | refine z0n (z2q rfl rfl rfl) (by first | exact rfl | exact ⟨_, rfl, rfl, rfl⟩) rfl rfl (by decide) ?_)) | (apply z1b; (refine z0n (z03 rfl rfl) (by first | exact rfl | exact ⟨_, rfl, rfl, rfl⟩) rfl rfl (by decide) ?_)) | (apply z1w; (refine z0n (z0t (ys := (([k] : List Rx).map fun k => txE (fm k 4)).map sB) rfl (by omega) (zep h0) rfl) (by first | exact rfl | exact ⟨_, rfl, rfl, rfl⟩) rfl rfl (by decide) ?_)) | (apply z2v; (refine z8z hct (by first | exact rfl | exact ⟨_, rfl, rfl, rfl⟩) rfl (by decide) ?_)) | refine z0n (z29 (by (try simp only [sa]); omega)) (by first | exact rfl | exact ⟨_, rfl, rfl, rfl⟩) rfl rfl (by decide) ?_)))
       all_goals try (exfalso; omega)
       all_goals exact z07 Tryz.func25 _ (z1h rfl rfl rfl) ⟨rfl, rfl⟩
     · rw [decide_eq_false hw4, hbf, z1q]
       repeat' (first | (apply z0e; (first | refine z13 rfl (by decide) ?_ | (apply z09; (refine z00 (z0k rfl rfl rfl rfl) rfl rfl (by decide) ?_)) | (apply z08; (refine z00 (z03 rfl rfl) rfl rfl (by decide) ?_)) | refine z00 (z29 (by (try simp only [sa]); omega)) rfl rfl (by decide) ?_)) | (apply z0f; (first | refine z0z ?_ | apply z0c)) | (apply z0d; (first | apply z0h | apply z01 | refine z0g rfl ?_ | apply z06 | apply z02 | apply z3w | apply z04 | refine z1o rfl (fun _ => ?_) (fun _ => ?_))) | (apply z3x; (first | (apply z1v; refine z2o mix (by kernel_rfl) ?_) | refine z47 rfl (by first | exact rfl | exact ⟨_, rfl, rfl, rfl⟩) (by decide) ?_ | (apply z1g; (first | refine z0n (z0k rfl rfl rfl rfl) (by first | exact rfl | exact ⟨_, rfl, rfl, rfl⟩) rfl rfl (by decide) ?_ | refine z0n (z2q rfl rfl rfl) (by first | exact rfl | exact ⟨_, rfl, rfl, rfl⟩) rfl rfl (by decide) ?_)) | (apply z1b; (refine z0n (z03 rfl rfl) (by first | exact rfl | exact ⟨_, rfl, rfl, rfl⟩) rfl rfl (by decide) ?_)) | (apply z1w; (refine z0n (z0t (ys := (([k] : List Rx).map fun k => txE (fm k 4)).map sB) rfl (by omega) (zep h0) rfl) (by first | exact rfl | exact ⟨_, rfl, rfl, rfl⟩) rfl rfl (by decide) ?_)) | (apply z2v; (refine z8z hct (by first | exact rfl | exact ⟨_, rfl, rfl, rfl⟩) rfl (by decide) ?_)) | refine z0n (z29 (by (try simp only [sa]); omega)) (by first | exact rfl | exact ⟨_, rfl, rfl, rfl⟩) rfl rfl (by decide) ?_)))
       all_goals try (exfalso; omega)
       all_goals exact z07 Tryz.func25 _ (z1h rfl rfl rfl) ⟨rfl, rfl⟩
end Go.Proofs.YtjmbjgecfpggdaaGreatDoor
