/- A part of the proof: A32, A33, A34, A35. -/
import Derived.Test.YthdfkabdoidjfaaGreatDoorQ5
import Derived.Test.YthdfkabdoidjfaaGreatDoorQ1
import Derived.Test.YthdfkabdoidjfaaGreatDoorQ8
import Derived.Test.YthdfkabdoidjfaaGreatDoorQs
import Derived.Test.YthdfkabdoidjfaaGreatDoorQz
set_option linter.all false
set_option linter.unusedVariables false
set_option linter.unusedSimpArgs false
namespace Go.Proofs.YthdfkabdoidjfaaGreatDoor
open Go.Ab Go.Ax Go.Rx
set_option maxHeartbeats 20000000
set_option maxRecDepth 100000
def zsj (x : Int) : List Int → List Int
 | [] => [x]
 | y :: l => if x ≤ y then x :: y :: l else y :: zsj x l
def zth : List Int → List Int
 | [] => []
 | x :: l => zsj x (zth l)
theorem zbh (x : Int) : ∀ l : List Int, (zsj x l).Perm (x :: l)
 | [] => List.Perm.refl _
 | y :: l => by
  rw [zsj]
  split
  · exact List.Perm.refl _
  · exact ((zbh x l).cons y).trans (List.Perm.swap x y l)
theorem zel : ∀ l : List Int, (zth l).Perm l
 | [] => List.Perm.refl _
 | x :: l => (zbh x (zth l)).trans ((zel l).cons x)
theorem zhv (x : Int) : ∀ l : List Int, l.Pairwise (· ≤ ·) → (zsj x l).Pairwise (· ≤ ·)
 | [], _ => by simp [zsj]
 | y :: l, h => by
  rw [zsj]
  rw [List.pairwise_cons] at h
  split
  · rename_i hx
    refine List.pairwise_cons.2 ⟨fun z hz => ?_, List.pairwise_cons.2 h⟩
    rcases List.mem_cons.1 hz with rfl | hz
    · exact hx
    · have := h.1 z hz; omega
  · rename_i hx
    refine List.pairwise_cons.2 ⟨fun z hz => ?_, zhv x l h.2⟩
    rcases List.mem_cons.1 ((zbh x l).mem_iff.1 hz) with rfl | hz
    · omega
    · exact h.1 z hz
theorem zh7 : ∀ l : List Int, (zth l).Pairwise (· ≤ ·)
 | [] => by simp [zth]
 | x :: l => zhv x _ (zh7 l)
theorem zow (l : List Int) : Go.Ax.srt l = zth l := zqu (zel l).symm (zh7 l)
def zlo (L : List (List Rg)) : List Int := cpt (zth (z5q L))
theorem zqp (L : List (List Rg)) : z7q L = zlo L := by rw [z7q, zow]; rfl
theorem zti (N : Nat) (lv : List (List Rg)) : zby N lv = (List.range ((zlo (z8n N 0 lv)).length - 1)).filterMap (cE N lv (zlo (z8n N 0 lv))) := by
 rw [zby, zev, zqp]
theorem zt5 (op : Int) (l m : List Arc) : zb9 op l m = (List.range ((zlo [z5v l, z5v m]).length - 1)).filterMap (prE op l m (zlo [z5v l, z5v m])) := by
 rw [zb9, z6m, zqp]
abbrev eS : Rx := .mk 4 0 (-1) [] [.mk 2 0 0 [] [.mk 1 0 0 [(97, 97)] [], .mk 1 0 0 [(98, 98)] []]]
abbrev cA : Au := ⟨[true, false, true], [[(97, 97, 1)], [(98, 98, 2)], [(97, 97, 1)]]⟩
abbrev mA : Au := ⟨[true, false], [[(97, 97, 1)], [(98, 98, 0)]]⟩
abbrev pA : Au := ⟨[false, true, true, false], [[(0, 96, 1), (97, 97, 2), (98, 1114111, 1)], [(0, 1114111, 1)], [(0, 97, 1), (98, 98, 3), (99, 1114111, 1)], [(0, 96, 1), (97, 97, 2), (98, 1114111, 1)]]⟩
abbrev nA : Au := ⟨[false, true, true], [[(0, 96, 1), (97, 97, 2), (98, 1114111, 1)], [(0, 1114111, 1)], [(0, 97, 1), (98, 98, 0), (99, 1114111, 1)]]⟩
theorem ztl : bd eS tb0 = (⟨[[(97, 97)], [(98, 98)]], [2, 1]⟩, ⟨1, 2, true⟩) := by rfl
theorem zv1 : zoo eS = some cA := by
 rw [zoo, znq]
 simp only [zti, ztl]
 kernel_rfl
theorem zpy : ze5 zq1.F cA.F zq1.A cA.A 3 = some pA := by
 rw [ze5]
 simp only [zt5]
 kernel_rfl
theorem zl6 : z81 cA.F cA.A = some cA := by kernel_rfl
theorem zjt {F : List Bool} {A : List (List Arc)} (h : ∀ q : Nat, q < F.length → z6y F A q) : zbm F A = F.map fun _ => true := by
 rw [zbm]
 refine List.ext_getElem (by simp) fun i h1 h2 => ?_
 simp only [List.getElem_map, List.getElem_range]
 simp at h1
 have h2 := h i h1
 rw [← List.getElem_range (n := F.length) (j := i) (by simpa using h1)] at h2
 exact @decide_eq_true _ (_) h2
theorem zsf {F : List Bool} {A : List (List Arc)} (h : ∀ q : Nat, q < F.length → z6y F A q) : cl0 F A = F.map fun b => if b = true then 1 else 0 := by
 rw [cl0, zjt h]
 refine List.ext_getElem (by simp) fun i h1 h2 => ?_
 simp at h1
 simp [h1]
theorem zko {F : List Bool} {A : List (List Arc)} (h : ∀ q : Nat, q < F.length → z6y F A q) (lim : Nat) : zn3 F A lim = match zn8 A lim (F.length + 1) 0 (F.map fun b => if b = true then 1 else 0) with
 | none => none
 | some cl => if cl.getD 0 0 < 0 then some ⟨[false], [[]]⟩ else zu4 F A cl lim := by
 rw [zn3, ztp, zsf h]
 generalize zn8 A lim (F.length + 1) 0 (F.map fun b => if b = true then 1 else 0) = o
 cases o <;> rfl
theorem zxx : ∀ q : Nat, q < cA.F.length → z6y cA.F cA.A q := fun q hq => by
 have : q = 0 ∨ q = 1 ∨ q = 2 := by simp at hq; omega
 have l2 : z6y cA.F cA.A 2 := .fin 2 rfl
 rcases this with rfl | rfl | rfl
 · exact .fin 0 rfl
 · exact .arc 1 [(98, 98, 2)] (98, 98, 2) rfl (by simp) l2
 · exact l2
theorem zxo : ∀ q : Nat, q < pA.F.length → z6y pA.F pA.A q := fun q hq => by
 have : q = 0 ∨ q = 1 ∨ q = 2 ∨ q = 3 := by simp at hq; omega
 have l1 : z6y pA.F pA.A 1 := .fin 1 rfl
 rcases this with rfl | rfl | rfl | rfl
 · exact .arc 0 _ (0, 96, 1) rfl (by simp) l1
 · exact l1
 · exact .fin 2 rfl
 · exact .arc 3 _ (0, 96, 1) rfl (by simp) l1
theorem zy5 : zn3 cA.F cA.A 256 = some mA := by
 rw [zko zxx]
 kernel_rfl
theorem zwz : zn3 pA.F pA.A 256 = some nA := by
 rw [zko zxo]
 kernel_rfl
theorem zx6 : val eS = 0 := by rfl
theorem zxl : fit eS := by simp [fit, zto]
theorem zy1 (N : Nat) : (z5q (z8n N 0 [[(97, 97)], [(98, 98)]])).length ≤ 12 := by
 simp only [z8n]
 split <;> split <;> simp [z5q, ends]
theorem zkv : ∀ {l : List Arc} {p : Option Arc}, okA p l → (l.map fun x => x.1).Pairwise (· < ·)
 | [], _, _ => List.Pairwise.nil
 | x :: l, p, h => by
  rw [List.map_cons, List.pairwise_cons]
  refine ⟨fun z hz => ?_, zkv h.2.2.2⟩
  obtain ⟨e, he, rfl⟩ := List.mem_map.1 hz
  have := zl2 h.2.2.2 e he
  have := h.1
  omega
theorem zso {l : List Arc} {p : Option Arc} (h : okA p l) (hr : ∀ x ∈ l, 0 ≤ x.1 ∧ x.1 ≤ 1114111) : l.length ≤ 1114112 := by
 have := zfw (B := 1114111) (zkv h) fun z hz => by
  obtain ⟨e, he, rfl⟩ := List.mem_map.1 hz
  have := hr e he
  omega
 rw [List.length_map] at this
 exact this
theorem zqj {B : Nat} : ∀ {A : List (List Arc)}, (∀ l ∈ A, l.length ≤ B) → (A.map List.length).sum ≤ A.length * B
 | [], _ => by simp
 | l :: A, h => by
  rw [List.map_cons, List.sum_cons, List.length_cons, Nat.succ_mul]
  have := h l (by simp)
  have := zqj (A := A) fun m hm => h m (by simp [hm])
  omega
theorem zfq {a : Au} (h : vAu a = 0) : zbv a.F a.A ∧ ∀ l ∈ a.A, l.length ≤ 1114112 := by
 have hv := zfl h
 have hl : ∀ l ∈ a.A, l.length ≤ 1114112 := fun l hl => zso (hv.arc l hl).1 fun x hx => by have := (hv.arc l hl).2 x hx; omega
 have hs := zqj hl
 have h1 := hv.few
 have h2 := hv.len
 have h3 : a.A.length * 1114112 ≤ 256 * 1114112 := Nat.mul_le_mul_right _ (by omega)
 exact ⟨⟨hv.len, fun l h => ⟨(hv.arc l h).1, by have := hl l h; omega, (hv.arc l h).2⟩, by omega, hv.pos, by omega⟩, hl⟩
theorem okC : zbv cA.F cA.A := (zfq (a := cA) (by kernel_rfl)).1
theorem zxs : zbv pA.F pA.A := (zfq (a := pA) (by kernel_rfl)).1
theorem zy6 : zbv zq1.F zq1.A := (zfq (a := zq1) (by kernel_rfl)).1
theorem zu0 : zg4 cA := ⟨by decide, by decide, by decide⟩
theorem zuz : zg4 nA := ⟨by decide, by decide, by decide⟩
theorem zrg : zg4 zq1 := ⟨by decide, by decide, by decide⟩
theorem zr8 : z13 Tryz.prog 33 [.d (Drx eS)] (.tup [.d (auD cA), I .i64 0]) := by
 have h := zls zgr (by decide) eS zxl zx6 (by rw [ztl]; exact zw3) (by rw [ztl]; decide) (by rw [ztl]; decide) (by rw [ztl]; decide) (by rw [ztl]; exact zy1)
 rw [zv1] at h
 exact h
theorem zwa : z13 Tryz.prog 21 [.d (auD cA)] (.tup [.d (auD mA), I .i64 0]) := by
 have hm : zwi cA = mA := by rw [zwi, zl6, Option.getD_some, zy5]; rfl
 have h := zir cA zu0 (by kernel_rfl) okC (by rw [zl6]; exact okC)
 rw [hm] at h
 exact h
theorem zuq : z13 Tryz.prog 26 [.d (auD cA)] (.tup [.d (auD nA), I .i64 0]) := by
 have h := zx5 zgr (by decide) zq1 cA 3 zrg zu0 (by kernel_rfl) (by kernel_rfl) (by decide) (by decide) zy6 okC (n := 1) (m := 1) (by decide) (by decide) (by decide) (fun x hx => by rw [zpy] at hx; simp only [Option.some.injEq] at hx; rw [← hx]; exact zxs)
 rw [zxk, zpy, Option.bind_some, zwz] at h
 exact zss cA ⟨nA, 0, rfl⟩ h
theorem zvv : ztc nA ⟨#[97]⟩ = true := by kernel_rfl
theorem zvo : ztc nA ⟨#[]⟩ = false := by kernel_rfl
attribute [local irreducible] Run Ops Op1 z23 Val Tr z13 z22 NF Rel z4e z4d zf2
theorem zr2 (τ : Tab) : z22 Tryz.prog 18 [] (zdt τ 0) [] (B true) := by
 refine z2h fun H hH => ?_
 have hX0 := hH ((0, 700), .glob 0 τ.o0) (by simp)
 have hX1 := hH ((0, 701), .glob 1 τ.o1) (by simp)
 have p1 := zou τ
 have q1 := zr8
 have q2 := zwa
 have q3 := zuq
 have q4 := zs8 nA zuz (by decide) ⟨#[97]⟩ (by decide)
 have q5 := zs8 nA zuz (by decide) ⟨#[]⟩ (by decide)
 rw [zvv] at q4
 rw [zvo] at q5
 refine z0k Tryz.func18 (by kernel_rfl) rfl (by simp) ?_
 dsimp only [Tryz.f18]
 refine z6d 700 0 700 hX0 rfl rfl ?_
 refine z6d 701 0 701 (z1c hX1 (by simp)) rfl rfl ?_
 repeat' (first | (apply z0a; (first | refine z0n ?_| (apply z06; (first | refine z02 z1e rfl rfl ?_| refine z02 z2e rfl rfl ?_| refine z02 z2c rfl rfl ?_)) | (apply z0d; (refine z02 z0i rfl rfl ?_)) | (apply z0e; (refine z02 (z9c rfl (by decide) rfl rfl) rfl rfl ?_)) | (apply z0x; (refine z02 (z1i rfl) rfl rfl ?_)) | (apply z0q; (first | refine z3l p1 rfl rfl (by decide) ?_ | refine z1j q1 ?_| refine z1j q2 ?_| refine z1j q3 ?_| refine z1j q4 ?_| refine z1j q5 ?_)) | (apply z0c; (refine z1u ?_)) | (apply z0g; (refine z05 z29 ?_)))) | (apply z09; (first | refine z0m ?_ | apply z07)) | (apply z08; (first | apply z0b | apply z00)))
 all_goals try (exfalso; first | omega | (simp at *; done))
 all_goals refine z4y 700 0 700 (raw := .glob 0 τ.o0) rfl rfl (z1c (z3g _ (0, 700) _) (by simp)) rfl rfl ?_
 all_goals refine z4y 701 0 701 (raw := .glob 1 τ.o1) rfl rfl (z1c (z3g _ (0, 701) _) (by simp)) rfl rfl ?_
 all_goals exact z0j Tryz.func18 _ z15 ⟨rfl, z8k hX0 hX1⟩
end Go.Proofs.YthdfkabdoidjfaaGreatDoor
namespace Go.Proofs.YthdfkabdoidjfaaGreatDoor
open Go.Ab Go.Ax Go.Rx
set_option maxHeartbeats 20000000
set_option maxRecDepth 100000
attribute [local irreducible] Run Ops Op1 z23 Val Tr z13 z22 NF Rel z4e z4d zf2
/-- an automaton is too large for the laws -/
def lgA (n : Int) (a : Au) : Bool := decide (n < a.F.length) || decide (n + 1 < a.A.length) || a.A.any fun l => decide (12 < l.length)
theorem zsc (n : Int) (hn : 0 ≤ n ∧ n ≤ 1000) (L : List Au) (hl : L.length ≤ 10) (hf : ∀ a ∈ L, zg4 a) : z13 Tryz.prog 15 [I .i64 n, .d (.slice (L.map auc))] (B (L.any (lgA n))) := by
 refine z1k fun H => ?_
 refine z0k Tryz.func15 (by kernel_rfl) rfl (by simp) ?_
 dsimp only [Tryz.f15]
 repeat' (first | (apply z0a; (first | refine z0n ?_| (apply z0x; (refine z02 (z1i rfl) rfl rfl ?_)))) | (apply z09; (first | refine z0m ?_ | apply z07)) | (apply z08; (first | apply z0b | apply z00 | apply z01)))
 all_goals try (exfalso; omega)
 refine z1f ?_
 refine z0f (z2f (fun q : Nat => ⟨40, [(0, I .i64 n), (4, B false), (9, .d (.slice (L.map auc))), (10, I .i64 L.length), (11, I .i64 (q : Nat))], [], H⟩) (fun q => q ≤ L.length ∧ (L.drop q).any (lgA n) = L.any (lgA n)) (fun q => L.length - q) ?_ 0 ⟨Nat.zero_le _, rfl⟩) rfl rfl
 intro i ⟨i1, i2⟩ ih
 by_cases hlt : i < L.length
 · obtain ⟨a, ha⟩ : ∃ a, L[i]? = some a := ⟨_, List.getElem?_eq_getElem hlt⟩
   have hfa := hf a (List.mem_of_getElem? ha)
   rw [drop_cons ha, List.any_cons, lgA] at i2
   obtain ⟨f1, f2, f3⟩ := hfa
   by_cases h1 : n < a.F.length
   · rw [decide_eq_true h1, Bool.true_or, Bool.true_or, Bool.true_or] at i2
     rw [← i2]
     repeat' (first | (apply z0a; (first | refine z0n ?_| (apply z06; (first | refine z02 z1e rfl rfl ?_| refine z02 z1s rfl rfl ?_)) | (apply z0d; (refine z02 z0i rfl rfl ?_)) | (apply z0e; (refine z02 (z11 (ys := L.map auc) rfl (idx (g := auc) ha)) rfl rfl ?_)) | (apply z0t; (refine z02 (z0r z1d) rfl rfl ?_)) | (apply z0x; (refine z02 (z1i rfl) rfl rfl ?_)) | (apply z0c; (refine z1u ?_)) | (apply z0g; (refine z05 z29 ?_)))) | (apply z09; (first | refine z0m ?_ | apply z07 | refine z1r ?_| refine z2k (fun _ => ?_) (fun _ => ?_))) | (apply z08; (first | apply z0b | apply z00 | refine z1g ?_| apply z04 | apply z01 | refine z0h (fun _ => ?_) (fun _ => ?_)| refine z0l ?_)))
     all_goals try (exfalso; omega)
     all_goals exact z0j Tryz.func15 _ z15 ⟨rfl, rfl⟩
   by_cases h2 : n + 1 < a.A.length
   · rw [decide_eq_true h2, Bool.or_true, Bool.true_or, Bool.true_or] at i2
     rw [← i2]
     repeat' (first | (apply z0a; (first | refine z0n ?_| (apply z06; (first | refine z02 z1e rfl rfl ?_| refine z02 z1s rfl rfl ?_)) | (apply z0d; (refine z02 z0i rfl rfl ?_)) | (apply z0e; (refine z02 (z11 (ys := L.map auc) rfl (idx (g := auc) ha)) rfl rfl ?_)) | (apply z0t; (refine z02 (z0r z1d) rfl rfl ?_)) | (apply z0x; (refine z02 (z1i rfl) rfl rfl ?_)) | (apply z0c; (refine z1u ?_)) | (apply z0g; (refine z05 z29 ?_)))) | (apply z09; (first | refine z0m ?_ | apply z07 | refine z1r ?_| refine z2k (fun _ => ?_) (fun _ => ?_))) | (apply z08; (first | apply z0b | apply z00 | refine z1g ?_| apply z04 | apply z01 | refine z0h (fun _ => ?_) (fun _ => ?_)| refine z0l ?_)))
     all_goals try (exfalso; omega)
     all_goals exact z0j Tryz.func15 _ z15 ⟨rfl, rfl⟩
   rw [decide_eq_false h1, decide_eq_false h2, Bool.false_or, Bool.false_or] at i2
   repeat' (first | (apply z0a; (first | refine z0n ?_| (apply z06; (first | refine z02 z1e rfl rfl ?_| refine z02 z1s rfl rfl ?_)) | (apply z0d; (refine z02 z0i rfl rfl ?_)) | (apply z0e; (refine z02 (z11 (ys := L.map auc) rfl (idx (g := auc) ha)) rfl rfl ?_)) | (apply z0t; (refine z02 (z0r z1d) rfl rfl ?_)) | (apply z0x; (refine z02 (z1i rfl) rfl rfl ?_)) | (apply z0c; (refine z1u ?_)) | (apply z0g; (refine z05 z29 ?_)))) | (apply z09; (first | refine z0m ?_ | apply z07 | refine z1r ?_| refine z2k (fun _ => ?_) (fun _ => ?_))) | (apply z08; (first | apply z0b | apply z00 | refine z1g ?_| apply z04 | apply z01 | refine z0h (fun _ => ?_) (fun _ => ?_)| refine z0l ?_)))
   all_goals try (exfalso; omega)
   refine z1f ?_
   refine z0f (z2f (fun q : Nat => ⟨40, [(0, I .i64 n), (4, B false), (9, .d (.slice (L.map auc))), (10, I .i64 L.length), (11, I .i64 (i : Nat)), (29, .d (.slice (a.A.map z5m))), (30, I .i64 a.A.length), (31, I .i64 (q : Nat))], [], H⟩) (fun q => q ≤ a.A.length ∧ (((a.A.drop q).any fun l => decide (12 < l.length)) || (L.drop (i + 1)).any (lgA n)) = L.any (lgA n)) (fun q => a.A.length - q) ?_ 0 ⟨Nat.zero_le _, i2⟩) rfl rfl
   intro j ⟨j1, j2⟩ ihj
   by_cases hj : j < a.A.length
   · obtain ⟨l, hl2⟩ : ∃ l, a.A[j]? = some l := ⟨_, List.getElem?_eq_getElem hj⟩
     have hll := f3 l (List.mem_of_getElem? hl2)
     rw [drop_cons hl2, List.any_cons] at j2
     by_cases h3 : 12 < l.length
     · rw [decide_eq_true h3, Bool.true_or, Bool.true_or] at j2
       rw [← j2]
       repeat' (first | (apply z0a; (first | refine z0n ?_| (apply z06; (refine z02 z2e rfl rfl ?_)) | (apply z0e; (refine z02 (z11 (ys := a.A.map z5m) rfl (idx (g := z5m) hl2)) rfl rfl ?_)) | (apply z0t; (refine z02 (z0r z1d) rfl rfl ?_)) | (apply z0x; (refine z02 (z1i rfl) rfl rfl ?_)))) | (apply z09; (first | refine z0m ?_ | apply z07)) | (apply z08; (first | apply z0b | apply z00 | apply z04 | apply z01 | apply z03 | refine z0h (fun _ => ?_) (fun _ => ?_)| refine z0l ?_)))
       all_goals try (exfalso; omega)
       all_goals exact z0j Tryz.func15 _ z15 ⟨rfl, rfl⟩
     · rw [decide_eq_false h3, Bool.false_or] at j2
       have ih' := ihj (j + 1) ⟨by omega, j2⟩ (by omega)
       repeat' (first | (apply z0a; (first | refine z0n ?_| (apply z06; (refine z02 z2e rfl rfl ?_)) | (apply z0e; (refine z02 (z11 (ys := a.A.map z5m) rfl (idx (g := z5m) hl2)) rfl rfl ?_)) | (apply z0t; (refine z02 (z0r z1d) rfl rfl ?_)) | (apply z0x; (refine z02 (z1i rfl) rfl rfl ?_)))) | (apply z09; (first | refine z0m ?_ | apply z07)) | (apply z08; (first | apply z0b | apply z00 | apply z04 | apply z01 | apply z03 | refine z0h (fun _ => ?_) (fun _ => ?_)| refine z0l ?_)))
       all_goals try (exfalso; omega)
       all_goals exact z0f ih' rfl rfl
   · obtain rfl : j = a.A.length := by omega
     rw [List.drop_length, List.any_nil, Bool.false_or] at j2
     have ih' := ih (i + 1) ⟨by omega, j2⟩ (by omega)
     repeat' (first | (apply z0a; (first | refine z0n ?_| (apply z0t; (refine z02 (z0r z1d) rfl rfl ?_)))) | (apply z09; (first | refine z0m ?_ | apply z07)) | (apply z08; (first | apply z0b | apply z00 | apply z04 | apply z01 | apply z03 | refine z0h (fun _ => ?_) (fun _ => ?_)| refine z0l ?_)))
     all_goals try (exfalso; omega)
     all_goals exact z0f ih' rfl rfl
 · obtain rfl : i = L.length := by omega
   rw [List.drop_length, List.any_nil] at i2
   rw [← i2]
   repeat' (first | (apply z0a; (refine z0n ?_)) | (apply z09; (first | refine z0m ?_ | apply z07)) | (apply z08; (first | apply z0b | apply z00 | apply z04 | apply z01 | refine z0h (fun _ => ?_) (fun _ => ?_)| refine z0l ?_)))
   all_goals try (exfalso; omega)
   all_goals exact z0j Tryz.func15 _ z15 ⟨rfl, rfl⟩
end Go.Proofs.YthdfkabdoidjfaaGreatDoor
namespace Go.Proofs.YthdfkabdoidjfaaGreatDoor
open Go.Ab Go.Ax Go.Rx Go.ChangeShapes Go.WideShapes Go.ChangeAt Go.RowKit
set_option maxHeartbeats 20000000
set_option maxRecDepth 100000
theorem zup {ds : List D} (h : ShL Tryz.prog [21, 21, 3] ds) : ∃ a : Arc, ds = z2r a := by
 obtain ⟨a, _, rfl, h1, b, _, rfl, h2, c, _, rfl, h3, rfl⟩ := h
 obtain ⟨x, rfl, _⟩ := h1.inv_int (k := .i32) (by kernel_rfl)
 obtain ⟨y, rfl, _⟩ := h2.inv_int (k := .i32) (by kernel_rfl)
 obtain ⟨z, rfl, _⟩ := h3.inv_int (k := .i64) (by kernel_rfl)
 exact ⟨(x, y, z), rfl⟩
theorem zru {ds : List D} (h : Sh Tryz.prog 39 ds) : ∃ l : List Arc, ds = z5m l ∧ l.length ≤ 9223372036854775807 := by
 obtain ⟨l, rfl, hl, _⟩ := h.inv_list (e := 38) z2r (fun _ => True) (by kernel_rfl) fun x hx => by
  obtain ⟨a, rfl⟩ := zup (hx.inv_fields (ts := [21, 21, 3]) (by kernel_rfl))
  exact ⟨a, rfl, trivial⟩
 exact ⟨l, rfl, hl⟩
theorem zvc {ds : List D} (h : Sh Tryz.prog 22 ds) : ∃ l : List Bool, ds = [zkr l] ∧ l.length ≤ 9223372036854775807 := by
 obtain ⟨l, rfl, hl, _⟩ := h.inv_list (e := 4) boc (fun _ => True) (by kernel_rfl) fun x hx => by
  cases hx with
  | bool _ b _ => exact ⟨b, rfl, trivial⟩
  | int t k z hu _ _ => exact absurd (hu.symm.trans (show Tryz.prog.underlying 4 = some .bool by kernel_rfl)) (by simp)
  | str t z hu _ => exact absurd (hu.symm.trans (show Tryz.prog.underlying 4 = some .bool by kernel_rfl)) (by simp)
  | slice t _ _ hu _ _ => exact absurd (hu.symm.trans (show Tryz.prog.underlying 4 = some .bool by kernel_rfl)) (by simp)
  | struct t _ _ hu _ _ => exact absurd (hu.symm.trans (show Tryz.prog.underlying 4 = some .bool by kernel_rfl)) (by simp)
 exact ⟨l, rfl, hl⟩
theorem zwt {ds : List D} (h : ShL Tryz.prog [22, 23] ds) : ∃ a : Au, ds = auc a ∧ zg4 a := by
 obtain ⟨a, _, rfl, h1, b, _, rfl, h2, rfl⟩ := h
 obtain ⟨F, rfl, hF⟩ := zvc h1
 obtain ⟨A, rfl, hA, hl⟩ := h2.inv_list (e := 39) z5m (fun l => l.length ≤ 9223372036854775807) (by kernel_rfl) fun x hx => zru hx
 exact ⟨⟨F, A⟩, rfl, hF, hA, hl⟩
theorem zx8 {H : Type} {enc : TypeId × Value → H} {W : World} {v : Value} {d : DataW H} {p : List MemPlace} {r : Reach} {b0 : Nat} (hsep : ∀ g o v, zl5 g → W.cell? ⟨g, o, none⟩ = some v → ∃ z, v = .int .u8 z) (hval : Value.okWide Tryz.prog W r b0 25 v)
  (h : DataW.Trod enc Tryz.prog W 0 (fun _ => true) true 25 v d p) : ∃ a : Au, zg4 a ∧ DR W zl5 (auD a) v := by
 obtain ⟨ds, h1, h2, _⟩ := zoy hsep (G := [25, 22, 23, 4, 39, 38, 21, 3]) (by kernel_rfl) (by kernel_rfl) (by decide) hval h
 obtain ⟨fs, u25, _⟩ := z6o (show fieldTypes Tryz.prog 25 = some [22, 23] by kernel_rfl)
 obtain ⟨a, rfl, ha⟩ := zwt (h1.inv_fields (ts := [22, 23]) (by kernel_rfl))
 exact ⟨a, ha, h2 ⟨fs, u25⟩⟩
end Go.Proofs.YthdfkabdoidjfaaGreatDoor
namespace Go.Proofs.YthdfkabdoidjfaaGreatDoor
open Go.Ab Go.Ax Go.Rx
set_option maxHeartbeats 20000000
set_option maxRecDepth 100000
attribute [local irreducible] Run Ops Op1 z23 Val Tr z13 z22 NF Rel z4e z4d zf2
theorem zuu {n : Int} {a : Au} (h : ¬ lgA n a = true) (hl : zg4 a) : ∀ l ∈ a.A, l.length ≤ 12 := fun l hl => by
 rw [lgA, Bool.or_eq_true, not_or, List.any_eq_true] at h
 by_cases hc : l.length ≤ 12
 · exact hc
 · exact absurd ⟨l, hl, decide_eq_true (by omega)⟩ h.2
theorem zuj (τ : Tab) (a : Au) (hf : zg4 a) (s : ByteArray) (hs : s.size ≤ maxLen) : z22 Tryz.prog 4 [.d (auD a), S s] (zdt τ 0) [] (B true) := by
 refine z2h fun H hH => ?_
 have hX0 := hH ((0, 700), .glob 0 τ.o0) (by simp)
 have hX1 := hH ((0, 701), .glob 1 τ.o1) (by simp)
 have haw := zr2 τ
 have hlg := zsc 40 (by omega) [a] (by simp) (by simpa using hf)
 have hany : [a].any (lgA 40) = lgA 40 a := by simp
 rw [hany] at hlg
 have hmax : maxLen ≤ 9223372036854775807 := by simp [maxLen]
 by_cases hb : lgA 40 a = true
 · rw [hb] at hlg
   obtain ⟨F, A⟩ := a
   refine z0k Tryz.func4 (by kernel_rfl) rfl (by simp) ?_
   dsimp only [Tryz.f4]
   refine z6d 700 0 700 hX0 rfl rfl ?_
   refine z6d 701 0 701 (z1c hX1 (by simp)) rfl rfl ?_
   repeat' (first | (apply z0a; (first | refine z0n ?_| (apply z06; (refine z02 z3k rfl rfl ?_)) | (apply z0q; (refine z1j hlg ?_)) | (apply z1q; (refine z05 z3z ?_)) | (apply z1z; (refine z2d rfl ?_)))) | (apply z09; (first | refine z0m ?_ | apply z07 | refine z1r ?_)) | (apply z08; (first | apply z0b | apply z00 | refine z1g ?_)))
   all_goals try (exfalso; first | omega | (simp at *; done))
   all_goals refine z4y 700 0 700 (raw := .glob 0 τ.o0) rfl rfl (z1c (z3g _ (0, 700) _) (by simp)) rfl rfl ?_
   all_goals refine z4y 701 0 701 (raw := .glob 1 τ.o1) rfl rfl (z1c (z3g _ (0, 701) _) (by simp)) rfl rfl ?_
   all_goals exact z0j Tryz.func4 _ z15 ⟨rfl, z8k hX0 hX1⟩
 · have hsm := zuu hb hf
   rw [Bool.not_eq_true] at hb
   rw [hb] at hlg
   by_cases h60 : 60 < s.size
   · obtain ⟨F, A⟩ := a
     refine z0k Tryz.func4 (by kernel_rfl) rfl (by simp) ?_
     dsimp only [Tryz.f4]
     refine z6d 700 0 700 hX0 rfl rfl ?_
     refine z6d 701 0 701 (z1c hX1 (by simp)) rfl rfl ?_
     repeat' (first | (apply z0a; (first | refine z0n ?_| (apply z06; (refine z02 z3k rfl rfl ?_)) | (apply z0x; (refine z02 (z6n rfl) rfl rfl ?_)) | (apply z0q; (refine z1j hlg ?_)) | (apply z1q; (refine z05 z3z ?_)) | (apply z1z; (refine z2d rfl ?_)))) | (apply z09; (first | refine z0m ?_ | apply z07)) | (apply z08; (first | apply z0b | apply z00 | apply z04 | apply z3b | refine z0h (fun _ => ?_) (fun _ => ?_))) | (apply z3a; (first | refine z3c ?_| (apply z0v; (refine z0o z3k rfl rfl ?_)))))
     all_goals try (exfalso; first | omega | (simp at *; done))
     all_goals refine z4y 700 0 700 (raw := .glob 0 τ.o0) rfl rfl (z1c (z3g _ (0, 700) _) (by simp)) rfl rfl ?_
     all_goals refine z4y 701 0 701 (raw := .glob 1 τ.o1) rfl rfl (z1c (z3g _ (0, 701) _) (by simp)) rfl rfl ?_
     all_goals exact z0j Tryz.func4 _ z15 ⟨rfl, z8k hX0 hX1⟩
   · have h1 := zs8 a hf (fun l hl => by have := hsm l hl; omega) s (by omega)
     have h2 := ztw a hf (fun l hl => by have := hsm l hl; omega) s (by omega)
     generalize ztc a s = r at *
     obtain ⟨F, A⟩ := a
     refine z0k Tryz.func4 (by kernel_rfl) rfl (by simp) ?_
     dsimp only [Tryz.f4]
     refine z6d 700 0 700 hX0 rfl rfl ?_
     refine z6d 701 0 701 (z1c hX1 (by simp)) rfl rfl ?_
     cases r
     all_goals repeat' (first | (apply z0a; (first | refine z0n ?_| (apply z06; (refine z02 z3k rfl rfl ?_)) | (apply z0x; (refine z02 (z6n rfl) rfl rfl ?_)) | (apply z0q; (refine z1j hlg ?_)) | (apply z1q; (refine z05 z3z ?_)) | (apply z1z; (refine z2d rfl ?_)))) | (apply z09; (first | refine z0m ?_ | apply z07)) | (apply z08; (first | apply z0b | apply z00 | apply z04 | apply z3b | refine z0h (fun _ => ?_) (fun _ => ?_))) | (apply z3a; (first | (apply z1a; refine z1t mix ?_) | refine z3c ?_| (apply z0v; (refine z0o z3k rfl rfl ?_)) | (apply z25; (refine z0o (zvf rfl) rfl rfl ?_)) | (apply z3m; (first | refine zlt haw (by first | exact rfl | exact ⟨_, rfl, rfl, rfl⟩) rfl rfl (by decide) ?_ | refine z6h h1 ?_| refine z6h h2 ?_)))))
     all_goals try (exfalso; first | omega | (simp at *; done))
     all_goals refine z4y 700 0 700 (raw := .glob 0 τ.o0) rfl rfl (z1c (z3g _ (0, 700) _) (by simp)) rfl rfl ?_
     all_goals refine z4y 701 0 701 (raw := .glob 1 τ.o1) rfl rfl (z1c (z3g _ (0, 701) _) (by simp)) rfl rfl ?_
     all_goals exact z0j Tryz.func4 _ z15 ⟨rfl, z8k hX0 hX1⟩
end Go.Proofs.YthdfkabdoidjfaaGreatDoor
