/- A part of the proof: A32, A33, A34. -/
import Derived.Test.YthdfkabdoidjfaaGreatDoorR5
import Derived.Test.YthdfkabdoidjfaaGreatDoorR1
import Derived.Test.YthdfkabdoidjfaaGreatDoorR8
import Derived.Test.YthdfkabdoidjfaaGreatDoorRv
import Derived.Test.YthdfkabdoidjfaaGreatDoorRz
set_option linter.all false
set_option linter.unusedVariables false
set_option linter.unusedSimpArgs false
namespace Go.Proofs.YthdfkabdoidjfaaGreatDoor
open Go.Ab Go.Ax Go.Rx
set_option maxHeartbeats 20000000
set_option maxRecDepth 100000
def zse (x : Int) : List Int → List Int
 | [] => [x]
 | y :: l => if x ≤ y then x :: y :: l else y :: zse x l
def zri : List Int → List Int
 | [] => []
 | x :: l => zse x (zri l)
theorem zbt (x : Int) : ∀ l : List Int, (zse x l).Perm (x :: l)
 | [] => List.Perm.refl _
 | y :: l => by
  rw [zse]
  split
  · exact List.Perm.refl _
  · exact ((zbt x l).cons y).trans (List.Perm.swap x y l)
theorem zeq : ∀ l : List Int, (zri l).Perm l
 | [] => List.Perm.refl _
 | x :: l => (zbt x (zri l)).trans ((zeq l).cons x)
theorem zhq (x : Int) : ∀ l : List Int, l.Pairwise (· ≤ ·) → (zse x l).Pairwise (· ≤ ·)
 | [], _ => by simp [zse]
 | y :: l, h => by
  rw [zse]
  rw [List.pairwise_cons] at h
  split
  · rename_i hx
    refine List.pairwise_cons.2 ⟨fun z hz => ?_, List.pairwise_cons.2 h⟩
    rcases List.mem_cons.1 hz with rfl | hz
    · exact hx
    · have := h.1 z hz; omega
  · rename_i hx
    refine List.pairwise_cons.2 ⟨fun z hz => ?_, zhq x l h.2⟩
    rcases List.mem_cons.1 ((zbt x l).mem_iff.1 hz) with rfl | hz
    · omega
    · exact h.1 z hz
theorem zhs : ∀ l : List Int, (zri l).Pairwise (· ≤ ·)
 | [] => by simp [zri]
 | x :: l => zhq x _ (zhs l)
theorem zns (l : List Int) : Go.Ax.srt l = zri l := zqz (zeq l).symm (zhs l)
def zku (L : List (List Rg)) : List Int := cpt (zri (z5v L))
theorem zr2 (L : List (List Rg)) : z83 L = zku L := by rw [z83, zns]; rfl
theorem ztb (N : Nat) (lv : List (List Rg)) : zc7 N lv = (List.range ((zku (z8v N 0 lv)).length - 1)).filterMap (cE N lv (zku (z8v N 0 lv))) := by
 rw [zc7, zec, zr2]
theorem zro (op : Int) (l m : List Arc) : zbe op l m = (List.range ((zku [z6b l, z6b m]).length - 1)).filterMap (prE op l m (zku [z6b l, z6b m])) := by
 rw [zbe, z6z, zr2]
abbrev eS : Rx := .mk 4 0 (-1) [] [.mk 2 0 0 [] [.mk 1 0 0 [(97, 97)] [], .mk 1 0 0 [(98, 98)] []]]
abbrev cA : Au := ⟨[true, false, true], [[(97, 97, 1)], [(98, 98, 2)], [(97, 97, 1)]]⟩
abbrev mA : Au := ⟨[true, false], [[(97, 97, 1)], [(98, 98, 0)]]⟩
abbrev pA : Au := ⟨[false, true, true, false], [[(0, 96, 1), (97, 97, 2), (98, 1114111, 1)], [(0, 1114111, 1)], [(0, 97, 1), (98, 98, 3), (99, 1114111, 1)], [(0, 96, 1), (97, 97, 2), (98, 1114111, 1)]]⟩
abbrev nA : Au := ⟨[false, true, true], [[(0, 96, 1), (97, 97, 2), (98, 1114111, 1)], [(0, 1114111, 1)], [(0, 97, 1), (98, 98, 0), (99, 1114111, 1)]]⟩
theorem zw8 : bd eS tb0 = (⟨[[(97, 97)], [(98, 98)]], [2, 1]⟩, ⟨1, 2, true⟩) := by rfl
theorem zud : zo8 eS = some cA := by
 rw [zo8, zpv]
 simp only [ztb, zw8]
 kernel_rfl
theorem zqe : zem zq2.F cA.F zq2.A cA.A 3 = some pA := by
 rw [zem]
 simp only [zro]
 kernel_rfl
theorem zly : z92 cA.F cA.A = some cA := by kernel_rfl
theorem zn5 {F : List Bool} {A : List (List Arc)} (h : ∀ q : Nat, q < F.length → z6y F A q) : zbj F A = F.map fun _ => true := by
 rw [zbj]
 refine List.ext_getElem (by simp) fun i h1 h2 => ?_
 simp only [List.getElem_map, List.getElem_range]
 simp at h1
 have h2 := h i h1
 rw [← List.getElem_range (n := F.length) (j := i) (by simpa using h1)] at h2
 exact @decide_eq_true _ (_) h2
theorem zst {F : List Bool} {A : List (List Arc)} (h : ∀ q : Nat, q < F.length → z6y F A q) : cl0 F A = F.map fun b => if b = true then 1 else 0 := by
 rw [cl0, zn5 h]
 refine List.ext_getElem (by simp) fun i h1 h2 => ?_
 simp at h1
 simp [h1]
theorem zlv {F : List Bool} {A : List (List Arc)} (h : ∀ q : Nat, q < F.length → z6y F A q) (lim : Nat) : znj F A lim = match znl A lim (F.length + 1) 0 (F.map fun b => if b = true then 1 else 0) with
 | none => none
 | some cl => if cl.getD 0 0 < 0 then some ⟨[false], [[]]⟩ else zvo F A cl lim := by
 rw [znj, ztp, zst h]
 generalize znl A lim (F.length + 1) 0 (F.map fun b => if b = true then 1 else 0) = o
 cases o <;> rfl
theorem zx1 : ∀ q : Nat, q < cA.F.length → z6y cA.F cA.A q := fun q hq => by
 have : q = 0 ∨ q = 1 ∨ q = 2 := by simp at hq; omega
 have l2 : z6y cA.F cA.A 2 := .fin 2 rfl
 rcases this with rfl | rfl | rfl
 · exact .fin 0 rfl
 · exact .arc 1 [(98, 98, 2)] (98, 98, 2) rfl (by simp) l2
 · exact l2
theorem zwr : ∀ q : Nat, q < pA.F.length → z6y pA.F pA.A q := fun q hq => by
 have : q = 0 ∨ q = 1 ∨ q = 2 ∨ q = 3 := by simp at hq; omega
 have l1 : z6y pA.F pA.A 1 := .fin 1 rfl
 rcases this with rfl | rfl | rfl | rfl
 · exact .arc 0 _ (0, 96, 1) rfl (by simp) l1
 · exact l1
 · exact .fin 2 rfl
 · exact .arc 3 _ (0, 96, 1) rfl (by simp) l1
theorem zwu : znj cA.F cA.A 256 = some mA := by
 rw [zlv zx1]
 kernel_rfl
theorem zwy : znj pA.F pA.A 256 = some nA := by
 rw [zlv zwr]
 kernel_rfl
theorem zwn : val eS = 0 := by rfl
theorem zwx : fit eS := by simp [fit, ztv]
theorem zx4 (N : Nat) : (z5v (z8v N 0 [[(97, 97)], [(98, 98)]])).length ≤ 12 := by
 simp only [z8v]
 split <;> split <;> simp [z5v, ends]
theorem zl7 : ∀ {l : List Arc} {p : Option Arc}, okA p l → (l.map fun x => x.1).Pairwise (· < ·)
 | [], _, _ => List.Pairwise.nil
 | x :: l, p, h => by
  rw [List.map_cons, List.pairwise_cons]
  refine ⟨fun z hz => ?_, zl7 h.2.2.2⟩
  obtain ⟨e, he, rfl⟩ := List.mem_map.1 hz
  have := zmz h.2.2.2 e he
  have := h.1
  omega
theorem zt1 {l : List Arc} {p : Option Arc} (h : okA p l) (hr : ∀ x ∈ l, 0 ≤ x.1 ∧ x.1 ≤ 1114111) : l.length ≤ 1114112 := by
 have := zh3 (B := 1114111) (zl7 h) fun z hz => by
  obtain ⟨e, he, rfl⟩ := List.mem_map.1 hz
  have := hr e he
  omega
 rw [List.length_map] at this
 exact this
theorem zq4 {B : Nat} : ∀ {A : List (List Arc)}, (∀ l ∈ A, l.length ≤ B) → (A.map List.length).sum ≤ A.length * B
 | [], _ => by simp
 | l :: A, h => by
  rw [List.map_cons, List.sum_cons, List.length_cons, Nat.succ_mul]
  have := h l (by simp)
  have := zq4 (A := A) fun m hm => h m (by simp [hm])
  omega
theorem zgu {a : Au} (h : vAu a = 0) : zc3 a.F a.A ∧ ∀ l ∈ a.A, l.length ≤ 1114112 := by
 have hv := zmq h
 have hl : ∀ l ∈ a.A, l.length ≤ 1114112 := fun l hl => zt1 (hv.arc l hl).1 fun x hx => by have := (hv.arc l hl).2 x hx; omega
 have hs := zq4 hl
 have h1 := hv.few
 have h2 := hv.len
 have h3 : a.A.length * 1114112 ≤ 256 * 1114112 := Nat.mul_le_mul_right _ (by omega)
 exact ⟨⟨hv.len, fun l h => ⟨(hv.arc l h).1, by have := hl l h; omega, (hv.arc l h).2⟩, by omega, hv.pos, by omega⟩, hl⟩
theorem okC : zc3 cA.F cA.A := (zgu (a := cA) (by kernel_rfl)).1
theorem zxy : zc3 pA.F pA.A := (zgu (a := pA) (by kernel_rfl)).1
theorem zwo : zc3 zq2.F zq2.A := (zgu (a := zq2) (by kernel_rfl)).1
theorem zv5 : zjk cA := ⟨by decide, by decide, by decide⟩
theorem zw5 : zjk nA := ⟨by decide, by decide, by decide⟩
theorem zs5 : zjk zq2 := ⟨by decide, by decide, by decide⟩
theorem zsy : z1f Tryz.prog 33 [.d (Drx eS)] (.tup [.d (auD cA), I .i64 0]) := by
 have h := zl1 zig (by decide) eS zwx zwn (by rw [zw8]; decide) (by rw [zw8]; decide) (by rw [zw8]; exact zx4)
 rw [zud] at h
 exact h
theorem zvx : z1f Tryz.prog 21 [.d (auD cA)] (.tup [.d (auD mA), I .i64 0]) := by
 have hm : zwb cA = mA := by rw [zwb, zly, Option.getD_some, zwu]; rfl
 have h := zjq cA zv5 (by kernel_rfl) okC (by rw [zly]; exact okC)
 rw [hm] at h
 exact h
theorem zur : z1f Tryz.prog 26 [.d (auD cA)] (.tup [.d (auD nA), I .i64 0]) := by
 have h := zxp zig (by decide) zq2 cA 3 zs5 zv5 (by kernel_rfl) (by kernel_rfl) (by decide) (by decide) zwo okC (n := 1) (m := 1) (by decide) (by decide) (by decide) (fun x hx => by rw [zqe] at hx; simp only [Option.some.injEq] at hx; rw [← hx]; exact zxy)
 rw [zwl, zqe, Option.bind_some, zwy] at h
 exact zs7 cA ⟨nA, 0, rfl⟩ h
theorem zw4 : zwc nA ⟨#[97]⟩ = true := by kernel_rfl
theorem zuz : zwc nA ⟨#[]⟩ = false := by kernel_rfl
attribute [local irreducible] Run Ops Op1 z2f Val Tr z1f z2d NF Rel z47 z48 zd5
theorem zrg (τ : Tab) : z2d Tryz.prog 18 [] (ze9 τ 0) [] (B true) := by
 refine z2p fun H hH => ?_
 have hX0 := hH ((0, 700), .glob 0 τ.o0) (by simp)
 have hX1 := hH ((0, 701), .glob 1 τ.o1) (by simp)
 have p1 := zpg τ
 have q1 := zsy
 have q2 := zvx
 have q3 := zur
 have q4 := zvl nA zw5 (by decide) ⟨#[97]⟩ (by decide)
 have q5 := zvl nA zw5 (by decide) ⟨#[]⟩ (by decide)
 rw [zw4] at q4
 rw [zuz] at q5
 refine z0t Tryz.func18 (by kernel_rfl) rfl (by simp) ?_
 dsimp only [Tryz.f18]
 refine z7d 700 0 700 hX0 rfl rfl ?_
 refine z7d 701 0 701 (z0s hX1 (by simp)) rfl rfl ?_
 repeat' (first | (apply z0c; (first | refine z0v rfl (by decide) ?_ | (apply z09; (first | refine z00 (z0g rfl rfl rfl rfl) rfl rfl (by decide) ?_ | refine z00 (z1i rfl rfl rfl) rfl rfl (by decide) ?_ | refine z00 (z14 rfl rfl rfl rfl) rfl rfl (by decide) ?_)) | (apply z0h; (refine z00 (z04 rfl rfl) rfl rfl (by decide) ?_)) | (apply z0n; (refine z00 (z0i rfl (by decide) rfl rfl) rfl rfl (by decide) ?_)) | (apply z1a; (refine z00 (z1r rfl) rfl rfl (by decide) ?_)) | (apply z16; (first | refine z3q p1 rfl rfl (by decide) ?_ | refine z3l q1 rfl (by decide) ?_ | refine z3l q2 rfl (by decide) ?_ | refine z3l q3 rfl (by decide) ?_ | refine z3l q4 rfl (by decide) ?_ | refine z3l q5 rfl (by decide) ?_)) | (apply z0f; (refine z08 rfl rfl rfl rfl rfl rfl ?_)) | (apply z0l; (refine z07 (z0k rfl rfl (by decide)) ?_)))) | (apply z0b; (first | refine z0u ?_ | apply z0a)) | (apply z0d; (first | apply z0e | apply z01)))
 all_goals try (exfalso; first | omega | (simp at *; done))
 all_goals refine z4l 700 0 700 (raw := .glob 0 τ.o0) rfl rfl (z0s (z4f _ (0, 700) _) (by simp)) rfl rfl ?_
 all_goals refine z4l 701 0 701 (raw := .glob 1 τ.o1) rfl rfl (z0s (z4f _ (0, 701) _) (by simp)) rfl rfl ?_
 all_goals exact z0r Tryz.func18 _ (z0p rfl rfl) ⟨rfl, zeu hX0 hX1⟩
end Go.Proofs.YthdfkabdoidjfaaGreatDoor
namespace Go.Proofs.YthdfkabdoidjfaaGreatDoor
open Go.Ab Go.Ax Go.Rx
set_option maxHeartbeats 20000000
set_option maxRecDepth 100000
attribute [local irreducible] Run Ops Op1 z2f Val Tr z1f z2d NF Rel z47 z48 zd5
/-- an automaton is too large for the laws -/
def lgA (n : Int) (a : Au) : Bool := decide (n < a.F.length) || decide (n + 1 < a.A.length) || a.A.any fun l => decide (12 < l.length)
theorem zsn (n : Int) (hn : 0 ≤ n ∧ n ≤ 1000) (L : List Au) (hl : L.length ≤ 10) (hf : ∀ a ∈ L, zjk a) : z1f Tryz.prog 15 [I .i64 n, .d (.slice (L.map auc))] (B (L.any (lgA n))) := by
 refine z1x fun H => ?_
 refine z0t Tryz.func15 (by kernel_rfl) rfl (by simp) ?_
 dsimp only [Tryz.f15]
 repeat' (first | (apply z0c; (first | refine z0v rfl (by decide) ?_ | (apply z1a; (refine z00 (z1r rfl) rfl rfl (by decide) ?_)))) | (apply z0b; (first | refine z0u ?_ | apply z0a)) | (apply z0d; (first | apply z0e | apply z01 | apply z02)))
 all_goals try (exfalso; omega)
 refine z1q ?_
 refine z0o (z2r (fun q : Nat => ⟨40, [(0, I .i64 n), (4, B false), (9, .d (.slice (L.map auc))), (10, I .i64 L.length), (11, I .i64 (q : Nat))], [], H⟩) (fun q => q ≤ L.length ∧ (L.drop q).any (lgA n) = L.any (lgA n)) (fun q => L.length - q) ?_ 0 ⟨Nat.zero_le _, rfl⟩) rfl rfl
 intro i ⟨i1, i2⟩ ih
 by_cases hlt : i < L.length
 · obtain ⟨a, ha⟩ : ∃ a, L[i]? = some a := ⟨_, List.getElem?_eq_getElem hlt⟩
   have hfa := hf a (List.mem_of_getElem? ha)
   rw [drop_cons ha, List.any_cons, lgA] at i2
   obtain ⟨f1, f2, f3⟩ := hfa
   by_cases h1 : n < a.F.length
   · rw [decide_eq_true h1, Bool.true_or, Bool.true_or, Bool.true_or] at i2
     rw [← i2]
     repeat' (first | (apply z0c; (first | refine z0v rfl (by decide) ?_ | (apply z09; (first | refine z00 (z0g rfl rfl rfl rfl) rfl rfl (by decide) ?_ | refine z00 (z0q rfl rfl) rfl rfl (by decide) ?_)) | (apply z0h; (refine z00 (z04 rfl rfl) rfl rfl (by decide) ?_)) | (apply z0n; (refine z00 (z0i (ys := L.map auc) rfl (by omega) (idx (g := auc) ha) rfl) rfl rfl (by decide) ?_)) | (apply z18; (refine z00 (z11 (z1n (by omega) (by omega))) rfl rfl (by decide) ?_)) | (apply z1a; (refine z00 (z1r rfl) rfl rfl (by decide) ?_)) | (apply z0f; (refine z08 rfl rfl rfl rfl rfl rfl ?_)) | (apply z0l; (refine z07 (z0k rfl rfl (by decide)) ?_)))) | (apply z0b; (first | refine z0u ?_ | apply z0a | refine z3v rfl rfl (by decide) ?_ | refine z1h rfl rfl (fun _ => ?_) (fun _ => ?_))) | (apply z0d; (first | apply z0e | apply z01 | refine z1d rfl ?_ | apply z06 | apply z02 | refine z1j rfl (fun _ => ?_) (fun _ => ?_) | refine z0j rfl ?_)))
     all_goals try (exfalso; omega)
     all_goals exact z0r Tryz.func15 _ (z0p rfl rfl) ⟨rfl, rfl⟩
   by_cases h2 : n + 1 < a.A.length
   · rw [decide_eq_true h2, Bool.or_true, Bool.true_or, Bool.true_or] at i2
     rw [← i2]
     repeat' (first | (apply z0c; (first | refine z0v rfl (by decide) ?_ | (apply z09; (first | refine z00 (z0g rfl rfl rfl rfl) rfl rfl (by decide) ?_ | refine z00 (z0q rfl rfl) rfl rfl (by decide) ?_)) | (apply z0h; (refine z00 (z04 rfl rfl) rfl rfl (by decide) ?_)) | (apply z0n; (refine z00 (z0i (ys := L.map auc) rfl (by omega) (idx (g := auc) ha) rfl) rfl rfl (by decide) ?_)) | (apply z18; (refine z00 (z11 (z1n (by omega) (by omega))) rfl rfl (by decide) ?_)) | (apply z1a; (refine z00 (z1r rfl) rfl rfl (by decide) ?_)) | (apply z0f; (refine z08 rfl rfl rfl rfl rfl rfl ?_)) | (apply z0l; (refine z07 (z0k rfl rfl (by decide)) ?_)))) | (apply z0b; (first | refine z0u ?_ | apply z0a | refine z3v rfl rfl (by decide) ?_ | refine z1h rfl rfl (fun _ => ?_) (fun _ => ?_))) | (apply z0d; (first | apply z0e | apply z01 | refine z1d rfl ?_ | apply z06 | apply z02 | refine z1j rfl (fun _ => ?_) (fun _ => ?_) | refine z0j rfl ?_)))
     all_goals try (exfalso; omega)
     all_goals exact z0r Tryz.func15 _ (z0p rfl rfl) ⟨rfl, rfl⟩
   rw [decide_eq_false h1, decide_eq_false h2, Bool.false_or, Bool.false_or] at i2
   repeat' (first | (apply z0c; (first | refine z0v rfl (by decide) ?_ | (apply z09; (first | refine z00 (z0g rfl rfl rfl rfl) rfl rfl (by decide) ?_ | refine z00 (z0q rfl rfl) rfl rfl (by decide) ?_)) | (apply z0h; (refine z00 (z04 rfl rfl) rfl rfl (by decide) ?_)) | (apply z0n; (refine z00 (z0i (ys := L.map auc) rfl (by omega) (idx (g := auc) ha) rfl) rfl rfl (by decide) ?_)) | (apply z18; (refine z00 (z11 (z1n (by omega) (by omega))) rfl rfl (by decide) ?_)) | (apply z1a; (refine z00 (z1r rfl) rfl rfl (by decide) ?_)) | (apply z0f; (refine z08 rfl rfl rfl rfl rfl rfl ?_)) | (apply z0l; (refine z07 (z0k rfl rfl (by decide)) ?_)))) | (apply z0b; (first | refine z0u ?_ | apply z0a | refine z3v rfl rfl (by decide) ?_ | refine z1h rfl rfl (fun _ => ?_) (fun _ => ?_))) | (apply z0d; (first | apply z0e | apply z01 | refine z1d rfl ?_ | apply z06 | apply z02 | refine z1j rfl (fun _ => ?_) (fun _ => ?_) | refine z0j rfl ?_)))
   all_goals try (exfalso; omega)
   refine z1q ?_
   refine z0o (z2r (fun q : Nat => ⟨40, [(0, I .i64 n), (4, B false), (9, .d (.slice (L.map auc))), (10, I .i64 L.length), (11, I .i64 (i : Nat)), (29, .d (.slice (a.A.map z5x))), (30, I .i64 a.A.length), (31, I .i64 (q : Nat))], [], H⟩) (fun q => q ≤ a.A.length ∧ (((a.A.drop q).any fun l => decide (12 < l.length)) || (L.drop (i + 1)).any (lgA n)) = L.any (lgA n)) (fun q => a.A.length - q) ?_ 0 ⟨Nat.zero_le _, i2⟩) rfl rfl
   intro j ⟨j1, j2⟩ ihj
   by_cases hj : j < a.A.length
   · obtain ⟨l, hl2⟩ : ∃ l, a.A[j]? = some l := ⟨_, List.getElem?_eq_getElem hj⟩
     have hll := f3 l (List.mem_of_getElem? hl2)
     rw [drop_cons hl2, List.any_cons] at j2
     by_cases h3 : 12 < l.length
     · rw [decide_eq_true h3, Bool.true_or, Bool.true_or] at j2
       rw [← j2]
       repeat' (first | (apply z0c; (first | refine z0v rfl (by decide) ?_ | (apply z09; (refine z00 (z1i rfl rfl rfl) rfl rfl (by decide) ?_)) | (apply z0n; (refine z00 (z0i (ys := a.A.map z5x) rfl (by omega) (idx (g := z5x) hl2) rfl) rfl rfl (by decide) ?_)) | (apply z18; (refine z00 (z11 (z1n (by omega) (by omega))) rfl rfl (by decide) ?_)) | (apply z1a; (refine z00 (z1r rfl) rfl rfl (by decide) ?_)))) | (apply z0b; (first | refine z0u ?_ | apply z0a)) | (apply z0d; (first | apply z0e | apply z01 | apply z06 | apply z02 | apply z03 | refine z1j rfl (fun _ => ?_) (fun _ => ?_) | refine z0j rfl ?_)))
       all_goals try (exfalso; omega)
       all_goals exact z0r Tryz.func15 _ (z0p rfl rfl) ⟨rfl, rfl⟩
     · rw [decide_eq_false h3, Bool.false_or] at j2
       have ih' := ihj (j + 1) ⟨by omega, j2⟩ (by omega)
       repeat' (first | (apply z0c; (first | refine z0v rfl (by decide) ?_ | (apply z09; (refine z00 (z1i rfl rfl rfl) rfl rfl (by decide) ?_)) | (apply z0n; (refine z00 (z0i (ys := a.A.map z5x) rfl (by omega) (idx (g := z5x) hl2) rfl) rfl rfl (by decide) ?_)) | (apply z18; (refine z00 (z11 (z1n (by omega) (by omega))) rfl rfl (by decide) ?_)) | (apply z1a; (refine z00 (z1r rfl) rfl rfl (by decide) ?_)))) | (apply z0b; (first | refine z0u ?_ | apply z0a)) | (apply z0d; (first | apply z0e | apply z01 | apply z06 | apply z02 | apply z03 | refine z1j rfl (fun _ => ?_) (fun _ => ?_) | refine z0j rfl ?_)))
       all_goals try (exfalso; omega)
       all_goals exact z0o ih' rfl rfl
   · obtain rfl : j = a.A.length := by omega
     rw [List.drop_length, List.any_nil, Bool.false_or] at j2
     have ih' := ih (i + 1) ⟨by omega, j2⟩ (by omega)
     repeat' (first | (apply z0c; (first | refine z0v rfl (by decide) ?_ | (apply z18; (refine z00 (z11 (z1n (by omega) (by omega))) rfl rfl (by decide) ?_)))) | (apply z0b; (first | refine z0u ?_ | apply z0a)) | (apply z0d; (first | apply z0e | apply z01 | apply z06 | apply z02 | apply z03 | refine z1j rfl (fun _ => ?_) (fun _ => ?_) | refine z0j rfl ?_)))
     all_goals try (exfalso; omega)
     all_goals exact z0o ih' rfl rfl
 · obtain rfl : i = L.length := by omega
   rw [List.drop_length, List.any_nil] at i2
   rw [← i2]
   repeat' (first | (apply z0c; (refine z0v rfl (by decide) ?_)) | (apply z0b; (first | refine z0u ?_ | apply z0a)) | (apply z0d; (first | apply z0e | apply z01 | apply z06 | apply z02 | refine z1j rfl (fun _ => ?_) (fun _ => ?_) | refine z0j rfl ?_)))
   all_goals try (exfalso; omega)
   all_goals exact z0r Tryz.func15 _ (z0p rfl rfl) ⟨rfl, rfl⟩
theorem zgd (τ : Tab) (a : Au) (hf : zjk a) : z2d Tryz.prog 3 [.d (auD a)] (ze9 τ 0) [] (B true) := by
 refine z2p fun H hH => ?_
 have hX0 := hH ((0, 700), .glob 0 τ.o0) (by simp)
 have hX1 := hH ((0, 701), .glob 1 τ.o1) (by simp)
 have haw := zrg τ
 have hlg := zsn 300 (by omega) [a] (by simp) (by simpa using hf)
 have h1 := zbm a hf
 have h2 := zpm a hf
 generalize vAu a = v at *
 obtain ⟨F, A⟩ := a
 generalize [(⟨F, A⟩ : Au)].any (lgA 300) = b at *
 refine z0t Tryz.func3 (by kernel_rfl) rfl (by simp) ?_
 dsimp only [Tryz.f3]
 refine z7d 700 0 700 hX0 rfl rfl ?_
 refine z7d 701 0 701 (z0s hX1 (by simp)) rfl rfl ?_
 cases b
 all_goals repeat' (first | (apply z0c; (first | refine z0v rfl (by decide) ?_ | (apply z09; (refine z00 (z2i rfl rfl rfl) rfl rfl (by decide) ?_)) | (apply z16; (refine z3l hlg rfl (by decide) ?_)) | (apply z2b; (refine z07 (z2k rfl rfl rfl rfl rfl (by decide)) ?_)) | (apply z2j; (refine z2q rfl rfl rfl rfl rfl rfl rfl rfl (by decide) ?_)))) | (apply z0b; (first | refine z0u ?_ | apply z0a)) | (apply z0d; (first | apply z0e | apply z01 | refine z1d rfl ?_ | refine z0m rfl ?_ | apply z06 | apply z3c)) | (apply z3b; (first | (apply z1k; refine z2a mix (by kernel_rfl) ?_) | refine z3g rfl (by first | exact rfl | exact ⟨_, rfl, rfl, rfl⟩) (by decide) ?_ | (apply z0x; (refine z05 (z2i rfl rfl rfl) (by first | exact rfl | exact ⟨_, rfl, rfl, rfl⟩) rfl rfl (by decide) ?_)) | (apply z3k; (first | refine zm5 haw (by first | exact rfl | exact ⟨_, rfl, rfl, rfl⟩) rfl rfl (by decide) ?_ | refine ze8 h1 (by first | exact rfl | exact ⟨_, rfl, rfl, rfl⟩) rfl (by decide) ?_ | refine ze8 h2 (by first | exact rfl | exact ⟨_, rfl, rfl, rfl⟩) rfl (by decide) ?_)) | (refine z1t rfl rfl (fun hg => ?_) (fun hg => ?_) <;> simp only [hg] <;> (try simp only [decide_eq_true_eq, decide_eq_false_iff_not, Bool.not_eq_true', Bool.not_eq_false'] at hg)))))
 all_goals try (exfalso; first | omega | (simp at *; done))
 all_goals refine z4l 700 0 700 (raw := .glob 0 τ.o0) rfl rfl (z0s (z4f _ (0, 700) _) (by simp)) rfl rfl ?_
 all_goals refine z4l 701 0 701 (raw := .glob 1 τ.o1) rfl rfl (z0s (z4f _ (0, 701) _) (by simp)) rfl rfl ?_
 all_goals exact z0r Tryz.func3 _ (z0p rfl rfl) ⟨rfl, zeu hX0 hX1⟩
end Go.Proofs.YthdfkabdoidjfaaGreatDoor
namespace Go.Proofs.YthdfkabdoidjfaaGreatDoor
open Go.Ab Go.Ax Go.Rx Go.ChangeShapes Go.WideShapes Go.ChangeAt Go.RowKit
set_option maxHeartbeats 20000000
set_option maxRecDepth 100000
theorem zu1 {ds : List D} (h : ShL Tryz.prog [21, 21, 3] ds) : ∃ a : Arc, ds = z2z a := by
 obtain ⟨a, _, rfl, h1, b, _, rfl, h2, c, _, rfl, h3, rfl⟩ := h
 obtain ⟨x, rfl, _⟩ := h1.inv_int (k := .i32) (by kernel_rfl)
 obtain ⟨y, rfl, _⟩ := h2.inv_int (k := .i32) (by kernel_rfl)
 obtain ⟨z, rfl, _⟩ := h3.inv_int (k := .i64) (by kernel_rfl)
 exact ⟨(x, y, z), rfl⟩
theorem zs8 {ds : List D} (h : Sh Tryz.prog 39 ds) : ∃ l : List Arc, ds = z5x l ∧ l.length ≤ 9223372036854775807 := by
 obtain ⟨l, rfl, hl, _⟩ := h.inv_list (e := 38) z2z (fun _ => True) (by kernel_rfl) fun x hx => by
  obtain ⟨a, rfl⟩ := zu1 (hx.inv_fields (ts := [21, 21, 3]) (by kernel_rfl))
  exact ⟨a, rfl, trivial⟩
 exact ⟨l, rfl, hl⟩
theorem zw0 {ds : List D} (h : Sh Tryz.prog 22 ds) : ∃ l : List Bool, ds = [zmf l] ∧ l.length ≤ 9223372036854775807 := by
 obtain ⟨l, rfl, hl, _⟩ := h.inv_list (e := 4) boc (fun _ => True) (by kernel_rfl) fun x hx => by
  cases hx with
  | bool _ b _ => exact ⟨b, rfl, trivial⟩
  | int t k z hu _ _ => exact absurd (hu.symm.trans (show Tryz.prog.underlying 4 = some .bool by kernel_rfl)) (by simp)
  | str t z hu _ => exact absurd (hu.symm.trans (show Tryz.prog.underlying 4 = some .bool by kernel_rfl)) (by simp)
  | slice t _ _ hu _ _ => exact absurd (hu.symm.trans (show Tryz.prog.underlying 4 = some .bool by kernel_rfl)) (by simp)
  | struct t _ _ hu _ _ => exact absurd (hu.symm.trans (show Tryz.prog.underlying 4 = some .bool by kernel_rfl)) (by simp)
 exact ⟨l, rfl, hl⟩
theorem zxn {ds : List D} (h : ShL Tryz.prog [22, 23] ds) : ∃ a : Au, ds = auc a ∧ zjk a := by
 obtain ⟨a, _, rfl, h1, b, _, rfl, h2, rfl⟩ := h
 obtain ⟨F, rfl, hF⟩ := zw0 h1
 obtain ⟨A, rfl, hA, hl⟩ := h2.inv_list (e := 39) z5x (fun l => l.length ≤ 9223372036854775807) (by kernel_rfl) fun x hx => zs8 hx
 exact ⟨⟨F, A⟩, rfl, hF, hA, hl⟩
theorem zxv {H : Type} {enc : TypeId × Value → H} {W : World} {v : Value} {d : DataW H} {p : List MemPlace} {r : Reach} {b0 : Nat} (hsep : ∀ g o v, zkv g → W.cell? ⟨g, o, none⟩ = some v → ∃ z, v = .int .u8 z) (hval : Value.okWide Tryz.prog W r b0 25 v)
  (h : DataW.Trod enc Tryz.prog W 0 (fun _ => true) true 25 v d p) : ∃ a : Au, zjk a ∧ DR W zkv (auD a) v := by
 obtain ⟨ds, h1, h2, _⟩ := zpq hsep (G := [25, 22, 23, 4, 39, 38, 21, 3]) (by kernel_rfl) (by kernel_rfl) (by decide) hval h
 obtain ⟨fs, u25, _⟩ := z6x (show fieldTypes Tryz.prog 25 = some [22, 23] by kernel_rfl)
 obtain ⟨a, rfl, ha⟩ := zxn (h1.inv_fields (ts := [22, 23]) (by kernel_rfl))
 exact ⟨a, ha, h2 ⟨fs, u25⟩⟩
end Go.Proofs.YthdfkabdoidjfaaGreatDoor
