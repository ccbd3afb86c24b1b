/- A part of the proof: P1, P2. -/
import Derived.Test.YthdfkabdoidjfaaGreatDoorRs
import Derived.Test.YthdfkabdoidjfaaGreatDoorRu
import Derived.Test.YthdfkabdoidjfaaGreatDoorRc
import Derived.Test.YthdfkabdoidjfaaGreatDoorRr
import Derived.Test.YthdfkabdoidjfaaGreatDoorRp
set_option linter.all false
set_option linter.unusedVariables false
set_option linter.unusedSimpArgs false
namespace Go.Proofs.YthdfkabdoidjfaaGreatDoor
open Go.Ab Go.Rx
set_option maxHeartbeats 20000000
set_option maxRecDepth 100000
attribute [local irreducible] Run Ops Op1 z2f Val Tr z1f z2d NF Rel z47 z48
abbrev sA : ByteArray := ⟨#[40, 97, 98, 41, 42]⟩
theorem hsA : sA.size ≤ 1000000 := by decide
section
variable {X : Nat} (hX0 : X ≠ 700) (hX1 : X ≠ 701) (τ : Tab)
include hX0 hX1
theorem zrs (i : Nat) (c : Int) (hi : i < sA.size) (hx : nx (rst sA i) = c) (hc : 97 ≤ c ∧ c ≤ 98) (hw : (Utf8.decode sA i).2 = 1) (e0 : Nat) :
  z2d Tryz.prog 150 [.ptr (e0, X) 0, S (spB spA)] (((e0, X), pbx sA i 0 0) :: ze9 τ (e0 + 1)) [((e0, X), pbx sA ((i + 1 : Nat) : Int) 0 0)] (.tup [I .i32 c, B true]) := by
 refine z2p fun H hH => ?_
 have hX : H e0 X = some (pbx sA i 0 0) := hH ((e0, X), pbx sA i 0 0) (by simp)
 have hT : HT τ (e0 + 1) H := HT.of (bs := [((e0, X), pbx sA i 0 0)]) hH
 have hn := z5n (X := X) τ sA i (by omega) 0 0 (e0 + 1)
 have hsk := zuy (X := X) τ sA i hi hsA 0 0 (e0 + 1)
 rw [hx] at hn
 rw [hw] at hsk
 refine z0t Tryz.func150 (by kernel_rfl) rfl (by simp) ?_
 dsimp only [Tryz.f150]
 repeat' (first | (apply z0c; (first | refine z0v rfl (by decide) ?_ | (apply z09; (refine z3h rfl hX rfl rfl rfl rfl (by decide) ?_)) | (apply z0h; (refine z00 (z04 rfl rfl) rfl rfl (by decide) ?_)) | (apply z18; (refine z00 (z11 (z1n (by omega) (by omega))) rfl rfl (by decide) ?_)) | (apply z16; (first | refine z5s hsk rfl hX (bkT (by repeat (first | exact hT | refine HT.upd ?_ hX0 hX1))) (by decide) ?_ | refine z3q hn rfl (z36 (m := (e0 + 1, X)) hX (bkT (by repeat (first | exact hT | refine HT.upd ?_ hX0 hX1)))) (by decide) ?_)))) | (apply z0b; (first | refine z0u ?_ | apply z0a)) | (apply z0d; (first | apply z0e | apply z01 | apply z06 | refine z1j rfl (fun _ => ?_) (fun _ => ?_))))
 all_goals try (exfalso; omega)
 all_goals ((repeat rw [z42]); first | exact z0r Tryz.func150 _ (z1b rfl rfl rfl rfl rfl rfl rfl) ⟨rfl, rfl⟩ | exact z0r Tryz.func150 _ (z4i rfl rfl rfl) ⟨rfl, rfl⟩ | exact z0r Tryz.func150 _ (z0p rfl rfl) ⟨rfl, rfl⟩ | exact z0r Tryz.func150 _ (res_three rfl rfl rfl rfl) ⟨rfl, rfl⟩)
/-- a letter is read as an atom -/
theorem zsh (i : Nat) (c : Int) (hi : i < sA.size) (hx : nx (rst sA i) = c) (hc : 97 ≤ c ∧ c ≤ 98) (hw : (Utf8.decode sA i).2 = 1) (e0 : Nat) :
  z2d Tryz.prog 138 [.ptr (e0, X) 0] (((e0, X), pbx sA i 0 0) :: ze9 τ (e0 + 1)) [((e0, X), pbx sA ((i + 1 : Nat) : Int) 0 0)] (.tup [.d (eX (Rx.one c c)), B true]) := by
 refine z2p fun H hH => ?_
 have hX : H e0 X = some (pbx sA i 0 0) := hH ((e0, X), pbx sA i 0 0) (by simp)
 have hT : HT τ (e0 + 1) H := HT.of (bs := [((e0, X), pbx sA i 0 0)]) hH
 have hn := z5n (X := X) τ sA i (by omega) 0 0 (e0 + 1)
 have hcr := zca zyf (nx (rst sA i)) (zr3 sA i).1 (zr3 sA i).2
 have ho := zxd c c
 have hch := zrs hX0 hX1 τ i c hi hx hc hw (e0 + 1)
 refine z0t Tryz.func138 (by kernel_rfl) rfl (by simp) ?_
 dsimp only [Tryz.f138]
 rw [zla] at ho ⊢
 rw [hx] at hn hcr
 rw [show spA.contains c = false from by rcases (show c = 97 ∨ c = 98 by omega) with rfl | rfl <;> rfl] at hcr
 repeat' (first | (apply z0c; (first | refine z0v rfl (by decide) ?_ | (apply z09; (refine z3h rfl hX rfl rfl rfl rfl (by decide) ?_)) | (apply z0h; (refine z00 (z04 rfl rfl) rfl rfl (by decide) ?_)) | (apply z18; (refine z00 (z11 (z1n (by omega) (by omega))) rfl rfl (by decide) ?_)) | (apply z16; (first | refine z5s hch rfl hX (bkT (by repeat (first | exact hT | refine HT.upd ?_ hX0 hX1))) (by decide) ?_ | refine z3q hn rfl (z36 (m := (e0 + 1, X)) hX (bkT (by repeat (first | exact hT | refine HT.upd ?_ hX0 hX1)))) (by decide) ?_ | refine z3l hcr rfl (by decide) ?_ | refine z3l ho rfl (by decide) ?_)) | (apply z0f; (refine z08 rfl rfl rfl rfl rfl rfl ?_)) | (apply z0l; (refine z07 (z0k rfl rfl (by decide)) ?_)))) | (apply z0b; (first | refine z0u ?_ | apply z0a | refine z3v rfl rfl (by decide) ?_ | refine z9y rfl rfl (fun _ => ?_) (fun _ => ?_))) | (apply z0d; (first | apply z0e | apply z01 | refine z0m rfl ?_ | apply z06 | apply z02 | apply z03 | refine z1j rfl (fun _ => ?_) (fun _ => ?_))))
 all_goals try (exfalso; omega)
 all_goals ((repeat rw [z42]); first | exact z0r Tryz.func138 _ (z1b rfl rfl rfl rfl rfl rfl rfl) ⟨rfl, rfl⟩ | exact z0r Tryz.func138 _ (z4i rfl rfl rfl) ⟨rfl, rfl⟩ | exact z0r Tryz.func138 _ (z0p rfl rfl) ⟨rfl, rfl⟩ | exact z0r Tryz.func138 _ (res_three rfl rfl rfl rfl) ⟨rfl, rfl⟩)
/-- .. and nothing repeats it -/
theorem zqg (i : Nat) (c d : Int) (hi : i < sA.size) (hx : nx (rst sA i) = c) (hc : 97 ≤ c ∧ c ≤ 98) (hw : (Utf8.decode sA i).2 = 1) (hd : nx (rst sA (i + 1)) = d) (hdd : d = 98 ∨ d = 41) (e0 : Nat) :
  z2d Tryz.prog 123 [.ptr (e0, X) 0] (((e0, X), pbx sA i 0 0) :: ze9 τ (e0 + 1)) [((e0, X), pbx sA ((i + 1 : Nat) : Int) 0 0)] (.tup [.d (eX (Rx.one c c)), B true]) := by
 refine z2p fun H hH => ?_
 have hX : H e0 X = some (pbx sA i 0 0) := hH ((e0, X), pbx sA i 0 0) (by simp)
 have hT : HT τ (e0 + 1) H := HT.of (bs := [((e0, X), pbx sA i 0 0)]) hH
 have ha := zsh hX0 hX1 τ i c hi hx hc hw (e0 + 1)
 have hn := z5n (X := X) τ sA (i + 1) (by omega) 0 0 (e0 + 1)
 rw [hd] at hn
 refine z0t Tryz.func123 (by kernel_rfl) rfl (by simp) ?_
 dsimp only [Tryz.f123]
 rw [zla] at ha ⊢
 repeat' (first | (apply z0c; (first | refine z0v rfl (by decide) ?_ | (apply z16; (refine z5s ha rfl hX (bkT (by repeat (first | exact hT | refine HT.upd ?_ hX0 hX1))) (by decide) ?_)) | (apply z0f; (refine z08 rfl rfl rfl rfl rfl rfl ?_)) | (apply z0l; (refine z07 (z0k rfl rfl (by decide)) ?_)))) | (apply z0b; (first | refine z0u ?_ | apply z0a)) | (apply z0d; (first | apply z0e | apply z01 | apply z02)))
 all_goals try (exfalso; omega)
 refine z1q ?_
 refine z3z ?_
 repeat' (first | (apply z0c; (first | refine z0v rfl (by decide) ?_ | (apply z09; (first | refine z3h rfl (z3o _ (e0, X) _) rfl rfl rfl rfl (by decide) ?_ | refine z00 (z14 rfl rfl rfl rfl) rfl rfl (by decide) ?_)) | (apply z0h; (refine z00 (z04 rfl rfl) rfl rfl (by decide) ?_)) | (apply z18; (refine z00 (z11 (z1n (by omega) (by omega))) rfl rfl (by decide) ?_)) | (apply z16; (refine z3q hn rfl (z36 (m := (e0 + 1, X)) (z3o _ (e0, X) _) (bkT (by repeat (first | exact hT | refine HT.upd ?_ hX0 hX1)))) (by decide) ?_)) | (apply z0f; (refine z08 rfl rfl rfl rfl rfl rfl ?_)))) | (apply z0b; (first | refine z0u ?_ | apply z0a)) | (apply z0d; (first | apply z0e | apply z01 | refine z1d rfl ?_ | apply z06 | apply z02 | apply z03 | refine z1j rfl (fun _ => ?_) (fun _ => ?_))))
 all_goals try (exfalso; omega)
 all_goals ((repeat rw [z42]); first | exact z0r Tryz.func123 _ (z1b rfl rfl rfl rfl rfl rfl rfl) ⟨rfl, rfl⟩ | exact z0r Tryz.func123 _ (z4i rfl rfl rfl) ⟨rfl, rfl⟩ | exact z0r Tryz.func123 _ (z0p rfl rfl) ⟨rfl, rfl⟩ | exact z0r Tryz.func123 _ (res_three rfl rfl rfl rfl) ⟨rfl, rfl⟩)
abbrev eA : Rx := .mk 1 0 0 [(97, 97)] []
abbrev eB : Rx := .mk 1 0 0 [(98, 98)] []
abbrev eAB : Rx := .mk 2 0 0 [] [eA, eB]
abbrev bx2 : Nat × Blk := (2, .box (z7w [Value.int .i64 0, Value.int .i64 0, Value.int .i64 0, z3s, z3s]))
/-- both letters -/
theorem zu0 (e0 : Nat) :
  z2d Tryz.prog 109 [.ptr (e0, X) 0] (((e0, X), pbx sA 1 0 0) :: ze9 τ (e0 + 1)) [((e0, X), pbx sA 3 0 0)] (.tup [.d (eX eAB), B true]) := by
 refine z2p fun H hH => ?_
 have hX : H e0 X = some (pbx sA 1 0 0) := hH ((e0, X), pbx sA 1 0 0) (by simp)
 have hT : HT τ (e0 + 1) H := HT.of (bs := [((e0, X), pbx sA 1 0 0)]) hH
 have h1 := zqg hX0 hX1 τ 1 97 98 (by decide) (by rfl) (by decide) (by rfl) (by rfl) (.inl rfl) (e0 + 1)
 have h2 := zqg hX0 hX1 τ 2 98 41 (by decide) (by rfl) (by decide) (by rfl) (by rfl) (.inr rfl) (e0 + 1)
 have hn1 := z5n (X := X) τ sA 1 (by decide) 0 0 (e0 + 1)
 have hn2 := z5n (X := X) τ sA 2 (by decide) 0 0 (e0 + 1)
 have hn3 := z5n (X := X) τ sA 3 (by decide) 0 0 (e0 + 1)
 rw [show nx (rst sA 1) = 97 from rfl] at hn1
 rw [show nx (rst sA 2) = 98 from rfl] at hn2
 rw [show nx (rst sA 3) = 41 from rfl] at hn3
 refine z0t Tryz.func109 (by kernel_rfl) rfl (by simp) ?_
 dsimp only [Tryz.f109]
 rw [zla] at h1 h2
 rw [zer]
 repeat' (first | (apply z0c; (first | refine z0v rfl (by decide) ?_ | (apply z16; (refine z3q hn1 rfl (z36 (m := (e0 + 1, X)) hX (bkT (by repeat (first | exact hT | refine HT.upd ?_ hX0 hX1)))) (by decide) ?_)) | (apply z0l; (refine z07 (z0k rfl rfl (by decide)) ?_)))) | (apply z0b; (first | refine z0u ?_ | apply z0a)) | (apply z0d; (first | apply z0e | apply z01 | apply z02)))
 all_goals try (exfalso; omega)
 refine z2o 4 1000 44 5 rfl rfl rfl ?_
 refine z1q ?_
 refine z3z ?_
 repeat' (first | (apply z0c; (first | refine z0v rfl (by decide) ?_ | (apply z09; (first | refine z00 (z0g rfl rfl rfl rfl) rfl rfl (by decide) ?_ | refine z00 (z14 rfl rfl rfl rfl) rfl rfl (by decide) ?_)) | (apply z0h; (refine z00 (z04 rfl rfl) rfl rfl (by decide) ?_)) | (apply z1a; (refine z1u (g := rxc) (q := []) rfl rfl eA (by rw [z43]; rfl) rfl rfl rfl (zb6 _) rfl rfl (by decide) (by decide) ?_)) | (apply z16; (first | refine z5s h1 rfl hX (bkT (by repeat (first | exact hT | refine HT.upd ?_ hX0 hX1))) (by decide) ?_ | refine z3q hn2 rfl (z36 (m := (e0 + 1, X)) (z3o _ (e0, X) _) (bkT (by repeat (first | exact hT | refine HT.upd ?_ hX0 hX1)))) (by decide) ?_)) | (apply z0f; (refine z08 rfl rfl rfl rfl rfl rfl ?_)) | (apply z0l; (refine z07 (z0k rfl rfl (by decide)) ?_)) | (apply z2j; (refine z2q rfl rfl rfl rfl rfl rfl rfl rfl (by decide) ?_)))) | (apply z0b; (first | refine z0u ?_ | apply z0a)) | (apply z0d; (first | apply z0e | apply z01 | refine z1d rfl ?_ | refine z0m rfl ?_ | apply z06 | apply z02 | apply z03)))
 all_goals try (exfalso; omega)
 refine z2h 40 1000 rfl rfl ?_
 refine z0o (tm' := [(0, .ptr (e0 + 1, X) 0), (2, .ptr (0, 2) 0), (4, .ref (0, 1000)), (5, I .i32 98)]) (hp' := [(1000, .row 44 5 ([eA].map rxc)), bx2]) ?_ rfl rfl
 refine z3z ?_
 repeat' (first | (apply z0c; (first | refine z0v rfl (by decide) ?_ | (apply z09; (first | refine z00 (z0g rfl rfl rfl rfl) rfl rfl (by decide) ?_ | refine z00 (z14 rfl rfl rfl rfl) rfl rfl (by decide) ?_)) | (apply z0h; (refine z00 (z04 rfl rfl) rfl rfl (by decide) ?_)) | (apply z1a; (refine z1u (g := rxc) (q := [eA]) rfl rfl eB (by rw [z43]; rfl) rfl rfl rfl (zb6 _) rfl rfl (by decide) (by decide) ?_)) | (apply z16; (first | refine z5s h2 rfl (z3o _ (e0, X) _) (bkT (by repeat (first | exact hT | refine HT.upd ?_ hX0 hX1))) (by decide) ?_ | refine z3q hn3 rfl (z36 (m := (e0 + 1, X)) (z3o _ (e0, X) _) (bkT (by repeat (first | exact hT | refine HT.upd ?_ hX0 hX1)))) (by decide) ?_)) | (apply z0f; (refine z08 rfl rfl rfl rfl rfl rfl ?_)) | (apply z0l; (refine z07 (z0k rfl rfl (by decide)) ?_)) | (apply z2j; (refine z2q rfl rfl rfl rfl rfl rfl rfl rfl (by decide) ?_)))) | (apply z0b; (first | refine z0u ?_ | apply z0a)) | (apply z0d; (first | apply z0e | apply z01 | refine z1d rfl ?_ | refine z0m rfl ?_ | apply z06 | apply z02 | apply z03)))
 all_goals try (exfalso; omega)
 refine z2h 40 1000 rfl rfl ?_
 refine z0o (tm' := [(0, .ptr (e0 + 1, X) 0), (2, .ptr (0, 2) 0), (4, .ref (0, 1000)), (5, I .i32 41)]) (hp' := [(1000, .row 44 5 ([eA, eB].map rxc)), bx2]) ?_ rfl rfl
 refine z1z 1000 rfl ?_
 refine z3z ?_
 repeat' (first | (apply z0c; (first | refine z0v rfl (by decide) ?_ | (apply z1a; (refine z00 (z1r rfl) rfl rfl (by decide) ?_)) | (apply z0f; (refine z08 rfl rfl rfl rfl rfl rfl ?_)) | (apply z0z; (refine z10 rfl rfl rfl rfl rfl rfl rfl (by decide) ?_)))) | (apply z0b; (first | refine z0u ?_ | apply z0a)) | (apply z0d; (first | apply z0e | apply z01 | refine z0m rfl ?_ | apply z06 | refine z0j rfl ?_)))
 all_goals try (exfalso; omega)
 all_goals ((repeat rw [z42]); first | exact z0r Tryz.func109 _ (z1b rfl rfl rfl rfl rfl rfl rfl) ⟨rfl, rfl⟩ | exact z0r Tryz.func109 _ (z4i rfl rfl rfl) ⟨rfl, rfl⟩ | exact z0r Tryz.func109 _ (z0p rfl rfl) ⟨rfl, rfl⟩ | exact z0r Tryz.func109 _ (res_three rfl rfl rfl rfl) ⟨rfl, rfl⟩)
theorem zwp (e0 : Nat) :
  z2d Tryz.prog 70 [.ptr (e0, X) 0] (((e0, X), pbx sA 1 0 0) :: ze9 τ (e0 + 1)) [((e0, X), pbx sA 3 0 0)] (.tup [.d (eX eAB), B true]) := by
 refine z2p fun H hH => ?_
 have hX : H e0 X = some (pbx sA 1 0 0) := hH ((e0, X), pbx sA 1 0 0) (by simp)
 have hT : HT τ (e0 + 1) H := HT.of (bs := [((e0, X), pbx sA 1 0 0)]) hH
 have hr := zu0 hX0 hX1 τ (e0 + 1)
 have hn := z5n (X := X) τ sA 3 (by decide) 0 0 (e0 + 1)
 rw [show nx (rst sA 3) = 41 from rfl] at hn
 refine z0t Tryz.func70 (by kernel_rfl) rfl (by simp) ?_
 dsimp only [Tryz.f70]
 rw [zer] at hr ⊢
 repeat' (first | (apply z0c; (first | refine z0v rfl (by decide) ?_ | (apply z0l; (refine z07 (z0k rfl rfl (by decide)) ?_)))) | (apply z0b; (first | refine z0u ?_ | apply z0a)) | (apply z0d; (first | apply z0e | apply z01 | apply z02)))
 all_goals try (exfalso; omega)
 refine z2o 4 1000 44 5 rfl rfl rfl ?_
 refine z1q ?_
 refine z3z ?_
 repeat' (first | (apply z0c; (first | refine z0v rfl (by decide) ?_ | (apply z09; (first | refine z00 (z0g rfl rfl rfl rfl) rfl rfl (by decide) ?_ | refine z00 (z0q rfl rfl) rfl rfl (by decide) ?_ | refine z00 (z14 rfl rfl rfl rfl) rfl rfl (by decide) ?_)) | (apply z0h; (refine z00 (z04 rfl rfl) rfl rfl (by decide) ?_)) | (apply z0n; (refine z00 (z0i (u := rx5 2 0 0 [] [eA, eB]) rfl (by omega) rfl rfl) rfl rfl (by decide) ?_)) | (apply z1a; (first | refine z1u (g := rxc) (q := []) rfl rfl eAB (by rw [z43]; rfl) rfl rfl rfl (zb6 _) rfl rfl (by decide) (by decide) ?_ | refine z00 (zrn rfl) rfl rfl (by decide) ?_)) | (apply z16; (first | (refine z3q hn rfl (z36 (m := (e0 + 1, X)) (z3o _ (e0, X) _) (bkT (by repeat (first | exact hT | refine HT.upd ?_ hX0 hX1)))) (by decide) ?_; refine zai 25 rfl ?_; rw [List.nil_append, List.map_cons, List.map_nil, z43]) | refine z5s hr rfl hX (bkT (by repeat (first | exact hT | refine HT.upd ?_ hX0 hX1))) (by decide) ?_)) | (apply z0f; (refine z08 rfl rfl rfl rfl rfl rfl ?_)) | (apply z0l; (refine z07 (z0k rfl rfl (by decide)) ?_)) | (apply z2j; (refine z2q rfl rfl rfl rfl rfl rfl rfl rfl (by decide) ?_)))) | (apply z0b; (first | refine z0u ?_ | apply z0a)) | (apply z0d; (first | apply z0e | apply z01 | refine z1d rfl ?_ | refine z0m rfl ?_ | apply z06 | apply z02 | refine z0j rfl ?_)))
 all_goals try (exfalso; omega)
 all_goals ((repeat rw [z42]); first | exact z0r Tryz.func70 _ (z1b rfl rfl rfl rfl rfl rfl rfl) ⟨rfl, rfl⟩ | exact z0r Tryz.func70 _ (z4i rfl rfl rfl) ⟨rfl, rfl⟩ | exact z0r Tryz.func70 _ (z0p rfl rfl) ⟨rfl, rfl⟩ | exact z0r Tryz.func70 _ (res_three rfl rfl rfl rfl) ⟨rfl, rfl⟩)
theorem zre (e0 : Nat) :
  z2d Tryz.prog 138 [.ptr (e0, X) 0] (((e0, X), pbx sA 0 0 0) :: ze9 τ (e0 + 1)) [((e0, X), pbx sA 4 0 0)] (.tup [.d (eX eAB), B true]) := by
 refine z2p fun H hH => ?_
 have hX : H e0 X = some (pbx sA 0 0 0) := hH ((e0, X), pbx sA 0 0 0) (by simp)
 have hT : HT τ (e0 + 1) H := HT.of (bs := [((e0, X), pbx sA 0 0 0)]) hH
 have hu := zwp hX0 hX1 τ (e0 + 1)
 have hn := z5n (X := X) τ sA 0 (by decide) 0 0 (e0 + 1)
 rw [show nx (rst sA 0) = 40 from rfl] at hn
 have heat := zwq hX0 hX1 τ sA hsA 3 (by decide) 41 (by decide) (by decide) (e0 + 1)
 rw [show nx (rst sA 3) = 41 from rfl, if_pos rfl, decide_eq_true rfl] at heat
 refine z0t Tryz.func138 (by kernel_rfl) rfl (by simp) ?_
 dsimp only [Tryz.f138]
 rw [zer] at hu ⊢
 repeat' (first | (apply z0c; (first | refine z0v rfl (by decide) ?_ | (apply z09; (refine z3h rfl hX rfl rfl rfl rfl (by decide) ?_)) | (apply z0h; (refine z00 (z04 rfl rfl) rfl rfl (by decide) ?_)) | (apply z18; (refine z00 (z11 (z1n (by omega) (by omega))) rfl rfl (by decide) ?_)) | (apply z16; (first | refine z5s hu rfl (z3o _ (e0, X) _) (bkT (by repeat (first | exact hT | refine HT.upd ?_ hX0 hX1))) (by decide) ?_ | refine z3q hn rfl (z36 (m := (e0 + 1, X)) hX (bkT (by repeat (first | exact hT | refine HT.upd ?_ hX0 hX1)))) (by decide) ?_)) | (apply z0f; (first | refine z4g (raw' := pbx sA 1 0 0) rfl hX rfl rfl rfl rfl rfl rfl ?_ | refine z08 rfl rfl rfl rfl rfl rfl ?_)) | (apply z0l; (refine z07 (z0k rfl rfl (by decide)) ?_)))) | (apply z0b; (first | refine z0u ?_ | apply z0a)) | (apply z0d; (first | apply z0e | apply z01 | refine z1d rfl ?_ | apply z02 | apply z3c)) | (apply z3b; (first | (apply z1k; refine z2a mix (by kernel_rfl) ?_) | refine z3g rfl (by first | exact rfl | exact ⟨_, rfl, rfl, rfl⟩) (by decide) ?_ | (apply z0x; (refine z05 (z14 rfl rfl rfl rfl) (by first | exact rfl | exact ⟨_, rfl, rfl, rfl⟩) rfl rfl (by decide) ?_)) | (apply z3k; (refine zsc heat (by first | exact rfl | exact ⟨_, rfl, rfl, rfl⟩) rfl (z3o _ (e0, X) _) (bkT (by repeat (first | exact hT | refine HT.upd ?_ hX0 hX1))) (by decide) ?_)) | (apply z3i; (refine z4t (by first | exact rfl | exact ⟨_, rfl, rfl, rfl⟩) rfl rfl rfl rfl rfl rfl ?_)))))
 all_goals try (exfalso; omega)
 all_goals ((repeat rw [z42]); first | exact z0r Tryz.func138 _ (z1b rfl rfl rfl rfl rfl rfl rfl) ⟨rfl, rfl⟩ | exact z0r Tryz.func138 _ (z4i rfl rfl rfl) ⟨rfl, rfl⟩ | exact z0r Tryz.func138 _ (z0p rfl rfl) ⟨rfl, rfl⟩ | exact z0r Tryz.func138 _ (res_three rfl rfl rfl rfl) ⟨rfl, rfl⟩)
abbrev eSt : Rx := .mk 4 0 (-1) [] [eAB]
theorem zuq (e0 : Nat) :
  z2d Tryz.prog 123 [.ptr (e0, X) 0] (((e0, X), pbx sA 0 0 0) :: ze9 τ (e0 + 1)) [((e0, X), pbx sA 5 0 0)] (.tup [.d (eX eSt), B true]) := by
 refine z2p fun H hH => ?_
 have hX : H e0 X = some (pbx sA 0 0 0) := hH ((e0, X), pbx sA 0 0 0) (by simp)
 have hT : HT τ (e0 + 1) H := HT.of (bs := [((e0, X), pbx sA 0 0 0)]) hH
 have ha := zre hX0 hX1 τ (e0 + 1)
 have hn := z5n (X := X) τ sA 4 (by decide) 0 0 (e0 + 1)
 have hn5 := z5n (X := X) τ sA 5 (by decide) 0 0 (e0 + 1)
 rw [show nx (rst sA 4) = 42 from rfl] at hn
 rw [show nx (rst sA 5) = -1 from rfl] at hn5
 refine z0t Tryz.func123 (by kernel_rfl) rfl (by simp) ?_
 dsimp only [Tryz.f123]
 rw [zer] at ha ⊢
 rw [show rx5 4 0 (-1) [] [eAB] = [z2x 4, z2x 0, z2x (-1), rgs [], .slice [rx5 2 0 0 [] [eA, eB]]] by rw [rx5, List.map_cons, List.map_nil, z43]]
 repeat' (first | (apply z0c; (first | refine z0v rfl (by decide) ?_ | (apply z16; (refine z5s ha rfl hX (bkT (by repeat (first | exact hT | refine HT.upd ?_ hX0 hX1))) (by decide) ?_)) | (apply z0f; (refine z08 rfl rfl rfl rfl rfl rfl ?_)) | (apply z0l; (refine z07 (z0k rfl rfl (by decide)) ?_)))) | (apply z0b; (first | refine z0u ?_ | apply z0a)) | (apply z0d; (first | apply z0e | apply z01 | apply z02)))
 all_goals try (exfalso; omega)
 refine z1q ?_
 refine z3z ?_
 repeat' (first | (apply z0c; (first | refine z0v rfl (by decide) ?_ | (apply z09; (first | refine z3h rfl (z3o _ (e0, X) _) rfl rfl rfl rfl (by decide) ?_ | refine z00 (z14 rfl rfl rfl rfl) rfl rfl (by decide) ?_)) | (apply z0h; (refine z00 (z04 rfl rfl) rfl rfl (by decide) ?_)) | (apply z18; (refine z00 (z11 (z1n (by omega) (by omega))) rfl rfl (by decide) ?_)) | (apply z16; (refine z3q hn rfl (z36 (m := (e0 + 1, X)) (z3o _ (e0, X) _) (bkT (by repeat (first | exact hT | refine HT.upd ?_ hX0 hX1)))) (by decide) ?_)) | (apply z0f; (first | refine z4g (raw' := pbx sA 5 0 0) rfl (z3o _ (e0, X) _) rfl rfl rfl rfl rfl rfl ?_ | refine z08 rfl rfl rfl rfl rfl rfl ?_)) | (apply z0z; (refine z10 rfl rfl rfl rfl rfl rfl rfl (by decide) ?_)) | (apply z2j; (refine z2q rfl rfl rfl rfl rfl rfl rfl rfl (by decide) ?_)))) | (apply z0b; (first | refine z0u ?_ | apply z0a)) | (apply z0d; (first | apply z0e | apply z01 | refine z1d rfl ?_ | apply z06 | apply z02 | apply z03)))
 all_goals try (exfalso; omega)
 refine z3z ?_
 repeat' (first | (apply z0c; (first | refine z0v rfl (by decide) ?_ | (apply z09; (refine z00 (z14 rfl rfl rfl rfl) rfl rfl (by decide) ?_)) | (apply z16; (refine z3q hn5 rfl (z36 (m := (e0 + 1, X)) (z3o _ (e0, X) _) (bkT (by repeat (first | exact hT | refine HT.upd ?_ hX0 hX1)))) (by decide) ?_)) | (apply z0f; (refine z08 rfl rfl rfl rfl rfl rfl ?_)))) | (apply z0b; (first | refine z0u ?_ | apply z0a)) | (apply z0d; (first | apply z0e | apply z01 | refine z1d rfl ?_ | refine z0m rfl ?_ | apply z06 | apply z02)))
 all_goals try (exfalso; omega)
 all_goals ((repeat rw [z42]); first | exact z0r Tryz.func123 _ (z1b rfl rfl rfl rfl rfl rfl rfl) ⟨rfl, rfl⟩ | exact z0r Tryz.func123 _ (z4i rfl rfl rfl) ⟨rfl, rfl⟩ | exact z0r Tryz.func123 _ (z0p rfl rfl) ⟨rfl, rfl⟩ | exact z0r Tryz.func123 _ (res_three rfl rfl rfl rfl) ⟨rfl, rfl⟩)
theorem zvr (e0 : Nat) :
  z2d Tryz.prog 109 [.ptr (e0, X) 0] (((e0, X), pbx sA 0 0 0) :: ze9 τ (e0 + 1)) [((e0, X), pbx sA 5 0 0)] (.tup [.d (eX eSt), B true]) := by
 refine z2p fun H hH => ?_
 have hX : H e0 X = some (pbx sA 0 0 0) := hH ((e0, X), pbx sA 0 0 0) (by simp)
 have hT : HT τ (e0 + 1) H := HT.of (bs := [((e0, X), pbx sA 0 0 0)]) hH
 have h1 := zuq hX0 hX1 τ (e0 + 1)
 have hn1 := z5n (X := X) τ sA 0 (by decide) 0 0 (e0 + 1)
 have hn2 := z5n (X := X) τ sA 5 (by decide) 0 0 (e0 + 1)
 rw [show nx (rst sA 0) = 40 from rfl] at hn1
 rw [show nx (rst sA 5) = -1 from rfl] at hn2
 refine z0t Tryz.func109 (by kernel_rfl) rfl (by simp) ?_
 dsimp only [Tryz.f109]
 rw [zer] at h1 ⊢
 repeat' (first | (apply z0c; (first | refine z0v rfl (by decide) ?_ | (apply z16; (refine z3q hn1 rfl (z36 (m := (e0 + 1, X)) hX (bkT (by repeat (first | exact hT | refine HT.upd ?_ hX0 hX1)))) (by decide) ?_)) | (apply z0l; (refine z07 (z0k rfl rfl (by decide)) ?_)))) | (apply z0b; (first | refine z0u ?_ | apply z0a)) | (apply z0d; (first | apply z0e | apply z01 | apply z02)))
 all_goals try (exfalso; omega)
 refine z2o 4 1000 44 5 rfl rfl rfl ?_
 refine z1q ?_
 refine z3z ?_
 repeat' (first | (apply z0c; (first | refine z0v rfl (by decide) ?_ | (apply z09; (first | refine z00 (z0g rfl rfl rfl rfl) rfl rfl (by decide) ?_ | refine z00 (z14 rfl rfl rfl rfl) rfl rfl (by decide) ?_)) | (apply z0h; (refine z00 (z04 rfl rfl) rfl rfl (by decide) ?_)) | (apply z1a; (refine z1u (g := rxc) (q := []) rfl rfl eSt (by rw [z43]; rfl) rfl rfl rfl (zb6 _) rfl rfl (by decide) (by decide) ?_)) | (apply z16; (first | refine z5s h1 rfl hX (bkT (by repeat (first | exact hT | refine HT.upd ?_ hX0 hX1))) (by decide) ?_ | refine z3q hn2 rfl (z36 (m := (e0 + 1, X)) (z3o _ (e0, X) _) (bkT (by repeat (first | exact hT | refine HT.upd ?_ hX0 hX1)))) (by decide) ?_)) | (apply z0f; (refine z08 rfl rfl rfl rfl rfl rfl ?_)) | (apply z0l; (refine z07 (z0k rfl rfl (by decide)) ?_)) | (apply z2j; (refine z2q rfl rfl rfl rfl rfl rfl rfl rfl (by decide) ?_)))) | (apply z0b; (first | refine z0u ?_ | apply z0a)) | (apply z0d; (first | apply z0e | apply z01 | refine z1d rfl ?_ | refine z0m rfl ?_ | apply z06 | apply z02 | apply z03)))
 all_goals try (exfalso; omega)
 refine z2h 40 1000 rfl rfl ?_
 refine z0o (tm' := [(0, .ptr (e0 + 1, X) 0), (2, .ptr (0, 2) 0), (4, .ref (0, 1000)), (5, I .i32 (-1))]) (hp' := [(1000, .row 44 5 ([eSt].map rxc)), bx2]) ?_ rfl rfl
 rw [List.map_cons, List.map_nil, z43]
 refine z1z 1000 rfl ?_
 refine z3z ?_
 repeat' (first | (apply z0c; (first | refine z0v rfl (by decide) ?_ | (apply z09; (refine z00 (z0q rfl rfl) rfl rfl (by decide) ?_)) | (apply z0n; (refine z00 (z0i (u := rx5 4 0 (-1) [] [eAB]) rfl (by omega) rfl rfl) rfl rfl (by decide) ?_)) | (apply z1a; (refine z00 (zrn rfl) rfl rfl (by decide) ?_)) | (apply z0f; (refine z08 rfl rfl rfl rfl rfl rfl ?_)))) | (apply z0b; (first | refine z0u ?_ | apply z0a | refine z3v rfl rfl (by decide) ?_)) | (apply z0d; (first | apply z0e | apply z01 | refine z1d rfl ?_ | refine z0m rfl ?_ | refine z0j rfl ?_)))
 all_goals try (exfalso; omega)
 all_goals ((repeat rw [z42]); first | exact z0r Tryz.func109 _ (z1b rfl rfl rfl rfl rfl rfl rfl) ⟨rfl, rfl⟩ | exact z0r Tryz.func109 _ (z4i rfl rfl rfl) ⟨rfl, rfl⟩ | exact z0r Tryz.func109 _ (z0p rfl rfl) ⟨rfl, rfl⟩ | exact z0r Tryz.func109 _ (res_three rfl rfl rfl rfl) ⟨rfl, rfl⟩)
theorem zxs (e0 : Nat) :
  z2d Tryz.prog 70 [.ptr (e0, X) 0] (((e0, X), pbx sA 0 0 0) :: ze9 τ (e0 + 1)) [((e0, X), pbx sA 5 0 0)] (.tup [.d (eX eSt), B true]) := by
 refine z2p fun H hH => ?_
 have hX : H e0 X = some (pbx sA 0 0 0) := hH ((e0, X), pbx sA 0 0 0) (by simp)
 have hT : HT τ (e0 + 1) H := HT.of (bs := [((e0, X), pbx sA 0 0 0)]) hH
 have hr := zvr hX0 hX1 τ (e0 + 1)
 have hn := z5n (X := X) τ sA 5 (by decide) 0 0 (e0 + 1)
 rw [show nx (rst sA 5) = -1 from rfl] at hn
 refine z0t Tryz.func70 (by kernel_rfl) rfl (by simp) ?_
 dsimp only [Tryz.f70]
 rw [zer] at hr ⊢
 repeat' (first | (apply z0c; (first | refine z0v rfl (by decide) ?_ | (apply z0l; (refine z07 (z0k rfl rfl (by decide)) ?_)))) | (apply z0b; (first | refine z0u ?_ | apply z0a)) | (apply z0d; (first | apply z0e | apply z01 | apply z02)))
 all_goals try (exfalso; omega)
 refine z2o 4 1000 44 5 rfl rfl rfl ?_
 refine z1q ?_
 refine z3z ?_
 repeat' (first | (apply z0c; (first | refine z0v rfl (by decide) ?_ | (apply z09; (first | refine z00 (z0g rfl rfl rfl rfl) rfl rfl (by decide) ?_ | refine z00 (z0q rfl rfl) rfl rfl (by decide) ?_ | refine z00 (z14 rfl rfl rfl rfl) rfl rfl (by decide) ?_)) | (apply z0h; (refine z00 (z04 rfl rfl) rfl rfl (by decide) ?_)) | (apply z0n; (refine z00 (z0i (u := rx5 4 0 (-1) [] [eAB]) rfl (by omega) rfl rfl) rfl rfl (by decide) ?_)) | (apply z1a; (first | refine z1u (g := rxc) (q := []) rfl rfl eSt (by rw [z43]; rfl) rfl rfl rfl (zb6 _) rfl rfl (by decide) (by decide) ?_ | refine z00 (zrn rfl) rfl rfl (by decide) ?_)) | (apply z16; (first | (refine z3q hn rfl (z36 (m := (e0 + 1, X)) (z3o _ (e0, X) _) (bkT (by repeat (first | exact hT | refine HT.upd ?_ hX0 hX1)))) (by decide) ?_; refine zai 25 rfl ?_; rw [List.nil_append, List.map_cons, List.map_nil, z43]) | refine z5s hr rfl hX (bkT (by repeat (first | exact hT | refine HT.upd ?_ hX0 hX1))) (by decide) ?_)) | (apply z0f; (refine z08 rfl rfl rfl rfl rfl rfl ?_)) | (apply z0l; (refine z07 (z0k rfl rfl (by decide)) ?_)) | (apply z2j; (refine z2q rfl rfl rfl rfl rfl rfl rfl rfl (by decide) ?_)))) | (apply z0b; (first | refine z0u ?_ | apply z0a)) | (apply z0d; (first | apply z0e | apply z01 | refine z1d rfl ?_ | refine z0m rfl ?_ | apply z06 | apply z02 | refine z0j rfl ?_)))
 all_goals try (exfalso; omega)
 all_goals ((repeat rw [z42]); first | exact z0r Tryz.func70 _ (z1b rfl rfl rfl rfl rfl rfl rfl) ⟨rfl, rfl⟩ | exact z0r Tryz.func70 _ (z4i rfl rfl rfl) ⟨rfl, rfl⟩ | exact z0r Tryz.func70 _ (z0p rfl rfl) ⟨rfl, rfl⟩ | exact z0r Tryz.func70 _ (res_three rfl rfl rfl rfl) ⟨rfl, rfl⟩)
end
end Go.Proofs.YthdfkabdoidjfaaGreatDoor
namespace Go.Proofs.YthdfkabdoidjfaaGreatDoor
open Go.Ab Go.Rx
set_option maxHeartbeats 20000000
set_option maxRecDepth 100000
attribute [local irreducible] Run Ops Op1 z2f Val Tr z1f z2d NF Rel z47 z48
theorem zsr {P : Program} {f : FuncId} {R : z3n} {k : List Item} {all : Array Oper} {l : List Oper} {n : Nat} {tm : List (Nat × PV)} {hp : Hp} {up : Hf} {d : Nat} {ty : TypeId} {pos : String} {aft : Array Edge} {gd : Option (Nat × Bool)} {p : PV} {g : FuncId} {args : List Operand} {ps : List PV} {ats : Array TypeId} {ms : Nat} {b b' : Blk} {bs : List (Nm × Blk)}
  (hsp : z2d P g ps (((0, ms), b) :: bs) [((0, ms), b')] p) (hev : St.evs ⟨n, tm, hp, up⟩ args = some ps) (hb : Ab.look hp ms = some b) (hbs : BkE ⟨n, tm, hp, up⟩ bs) (hd : d < n)
  (h : Ops P f R all l k ⟨n, (d, p) :: tm, (ms, b') :: hp, up⟩) : Op1 P f R all ⟨some d, .call ⟨.value (.func g), args.toArray, ats⟩, ty, pos, aft, gd⟩ l k ⟨n, tm, hp, up⟩ :=
 zg8 hsp hev (z36 (m := (0, ms)) hb hbs) hd rfl h
theorem zpg (τ : Tab) : z2d Tryz.prog 39 [S sA] (ze9 τ 0) [] (.tup [.d (eX eSt), I .i64 0, I .i64 0]) := by
 refine z2p fun H hH => ?_
 have hT : HT τ 0 H := HT.of (bs := []) hH
 have hv := zck eSt (by simp [fit, ztv])
 rw [show val eSt = 0 from rfl, show Drx eSt = .agg (rx5 4 0 (-1) [] [eAB]) from zer _ _ _ _ _] at hv
 have hu := zxs (X := 10) (by decide) (by decide) τ 0
 rw [zer] at hu ⊢
 refine z0t Tryz.func39 (by kernel_rfl) rfl (by simp) ?_
 dsimp only [Tryz.f39]
 have h5 : ¬ 200 < sA.size := by decide
 repeat' (first | (apply z0c; (first | refine z0v rfl (by decide) ?_ | (apply z1a; (refine z00 (za8 rfl) rfl rfl (by decide) ?_)) | (apply z0l; (refine z07 (z0k rfl rfl (by decide)) ?_)))) | (apply z0b; (first | refine z0u ?_ | apply z0a)) | (apply z0d; (first | apply z0e | apply z01 | refine z0m rfl ?_ | apply z06 | apply z02)))
 all_goals try (exfalso; omega)
 obtain ⟨L, hL⟩ : ∃ L, unF 0 (rst sA 0) = L := ⟨_, rfl⟩
 have hok : ∀ u ∈ L, ¬ (u.1 = 65533 ∧ u.2.2 = 1) := by rw [← hL, show unF 0 (rst sA 0) = [(40, 0, 1), (97, 1, 1), (98, 2, 1), (41, 3, 1), (42, 4, 1)] from rfl]; decide
 have hll : L.length = 5 := by rw [← hL]; rfl
 refine z1q ?_
 refine z0o (z2r (fun q : Nat => ⟨66, [(0, S sA), (2, .ptr (0, 2) 0), (5, I .i64 (q : Nat))], [(2, .box (z7w [Value.int .i64 0, Value.int .i64 0, Value.int .i64 0, z3s, z3s]))], H⟩)
  (fun q => q ≤ L.length) (fun q => L.length - q) ?_ 0 (Nat.zero_le _)) rfl rfl
 intro q i1 ih
 have hat := zyc sA hsA q (by omega)
 rw [atR, hL] at hat
 by_cases hlt : q < L.length
 · obtain ⟨u, hu⟩ : ∃ u, L[q]? = some u := ⟨_, List.getElem?_eq_getElem hlt⟩
   rw [hu] at hat
   simp only at hat
   have hnb := hok u (List.mem_of_getElem? hu)
   repeat' (first | (apply z0c; (first | refine z0v rfl (by decide) ?_ | (apply z18; (refine z00 (z11 (z1n (by omega) (by omega))) rfl rfl (by decide) ?_)) | (apply z16; (refine z3l hat rfl (by decide) ?_)) | (apply z0f; (refine z08 rfl rfl rfl rfl rfl rfl ?_)) | (apply z0z; (refine z10 rfl rfl rfl rfl rfl rfl rfl (by decide) ?_)))) | (apply z0b; (first | refine z0u ?_ | apply z0a | refine z3v rfl rfl (by decide) ?_ | refine z1h rfl rfl (fun _ => ?_) (fun _ => ?_))) | (apply z0d; (first | apply z0e | apply z01 | refine z0m rfl ?_ | apply z06 | apply z02 | apply z03 | refine z1j rfl (fun _ => ?_) (fun _ => ?_))))
   all_goals try (exfalso; omega)
   all_goals exact z0o (ih (q + 1) (by omega) (by omega)) rfl rfl
 · obtain rfl : q = L.length := by omega
   rw [List.getElem?_eq_none (Nat.le_refl _)] at hat
   simp only at hat
   clear ih
   repeat' (first | (apply z0c; (first | refine z0v rfl (by decide) ?_ | (apply z09; (first | refine z00 (z0g rfl rfl rfl rfl) rfl rfl (by decide) ?_ | refine z00 (z14 rfl rfl rfl rfl) rfl rfl (by decide) ?_)) | (apply z0h; (refine z00 (z04 rfl rfl) rfl rfl (by decide) ?_)) | (apply z1a; (refine z00 (za8 rfl) rfl rfl (by decide) ?_)) | (apply z16; (first | refine zsr hu rfl rfl (bkT hT) (by decide) ?_ | refine z3l hat rfl (by decide) ?_ | refine z3l hv rfl (by decide) ?_)) | (apply z0f; (refine z08 rfl rfl rfl rfl rfl rfl ?_)) | (apply z0l; (refine z07 (z0k rfl rfl (by decide)) ?_)) | (apply z0z; (refine z10 rfl rfl rfl rfl rfl rfl rfl (by decide) ?_)))) | (apply z0b; (first | refine z0u ?_ | apply z0a)) | (apply z0d; (first | apply z0e | apply z01 | refine z1d rfl ?_ | refine z0m rfl ?_ | apply z06 | apply z02 | refine z0j rfl ?_)))
   all_goals try (exfalso; omega)
   all_goals exact z0r Tryz.func39 _ (zfo rfl rfl rfl rfl rfl rfl rfl rfl) ⟨rfl, rfl⟩
end Go.Proofs.YthdfkabdoidjfaaGreatDoor
