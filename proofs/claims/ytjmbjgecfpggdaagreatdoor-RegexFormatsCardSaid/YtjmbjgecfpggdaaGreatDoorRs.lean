/- A part of the proof: Shg, G4, G5, G6, G7, G8, G9. -/
import Derived.Shelf.Small.Utf8
import Derived.Shelf.Small.Strs
import Derived.Shelf.Strings.Search1
import Derived.Shelf.Unicode.Decode
import Derived.Shelf.Unicode.DecodeAny
import Derived.Test.YtjmbjgecfpggdaaGreatDoorProg
import Derived.Test.YtjmbjgecfpggdaaGreatDoorRp
import Derived.Test.YtjmbjgecfpggdaaGreatDoorRc
import Derived.Test.YtjmbjgecfpggdaaGreatDoorRx
set_option linter.all false
set_option linter.unusedVariables false
set_option linter.unusedSimpArgs false
namespace Go.Proofs.YtjmbjgecfpggdaaGreatDoor
open Go.Proofs
open Go.Shelf
def zfs : Go.Shelf.Ren := ⟨fun | 119 => 106 | n => n, fun | 21 => 21 | 4 => 4 | n => n, fun | n => n⟩
theorem zra : Go.Proofs.Lays.n119 Tryz.prog zfs := {
 mixed := by kernel_rfl
 f119 := Tryz.func106.trans (congrArg some (by kernel_rfl))
 t4 := Tryz.underlying4
 a4 := Tryz.isAgg4
 z4 := Tryz.sizeOf4
 v4 := Tryz.zeroValue4
 t21 := Tryz.underlying21
 a21 := Tryz.isAgg21
 z21 := Tryz.sizeOf21
 v21 := Tryz.zeroValue21 }
theorem utf8_ValidRune (r : Int) (w : World) :
  Calls Tryz.prog 106 #[.int .i32 r] w fun e w' => e = .returned (.bool (Lib.validRune r)) ∧ w' = w := Any.utf8_ValidRune zra r w
def zg7 : Go.Shelf.Ren := ⟨fun | 137 => 105 | 217 => 112 | 266 => 116 | n => n, fun | 9 => 9 | 5 => 5 | 3 => 3 | n => n, fun | n => n⟩
theorem zrh : Go.Proofs.Lays.n137 Tryz.prog zg7 := {
 mixed := by kernel_rfl
 f137 := Tryz.func105.trans (congrArg some (by kernel_rfl))
 f217 := Tryz.func112.trans (congrArg some (by kernel_rfl))
 f266 := Tryz.func116.trans (congrArg some (by kernel_rfl))
 t3 := Tryz.underlying3
 a3 := Tryz.isAgg3
 z3 := Tryz.sizeOf3
 v3 := Tryz.zeroValue3
 t5 := Tryz.underlying5
 a5 := Tryz.isAgg5
 z5 := Tryz.sizeOf5
 v5 := Tryz.zeroValue5
 t9 := Tryz.underlying9
 a9 := Tryz.isAgg9
 z9 := Tryz.sizeOf9
 v9 := Tryz.zeroValue9 }
open Go.RowKit in
theorem strings_IndexByte (s : ByteArray) (c : Int) (w : World) :
  Calls Tryz.prog 105 #[.string s, .int .u8 c] w fun e w' => e = .returned (.int .i64 (Lib.indexByte s.data.toList c.toNat.toUInt8)) ∧ w' = w := Any.strings_IndexByte zrh s c w
def zgb : Go.Shelf.Ren := ⟨fun | 197 => 52 | 260 => 70 | n => n, fun | 9 => 9 | 21 => 21 | 3 => 3 | 4 => 4 | 5 => 5 | 105 => 81 | 119 => 119 | 0 => 0 | 46 => 120 | 139 => 123 | 138 => 122 | n => n, fun | 3 => 0 | 4 => 1 | n => n⟩
theorem zqm : Go.Proofs.Lays.n197 Tryz.prog zgb := {
 mixed := by kernel_rfl
 f197 := Tryz.func52.trans (congrArg some (by kernel_rfl))
 f260 := Tryz.func70.trans (congrArg some (by kernel_rfl))
 t0 := Tryz.underlying0
 a0 := Tryz.isAgg0
 z0 := Tryz.sizeOf0
 v0 := Tryz.zeroValue0
 t3 := Tryz.underlying3
 a3 := Tryz.isAgg3
 z3 := Tryz.sizeOf3
 v3 := Tryz.zeroValue3
 t4 := Tryz.underlying4
 a4 := Tryz.isAgg4
 z4 := Tryz.sizeOf4
 v4 := Tryz.zeroValue4
 t5 := Tryz.underlying5
 a5 := Tryz.isAgg5
 z5 := Tryz.sizeOf5
 v5 := Tryz.zeroValue5
 t9 := Tryz.underlying9
 a9 := Tryz.isAgg9
 z9 := Tryz.sizeOf9
 v9 := Tryz.zeroValue9
 t21 := Tryz.underlying21
 a21 := Tryz.isAgg21
 z21 := Tryz.sizeOf21
 v21 := Tryz.zeroValue21
 t46 := Tryz.underlying120
 a46 := Tryz.isAgg120
 z46 := Tryz.sizeOf120
 v46 := Tryz.zeroValue120
 t105 := Tryz.underlying81
 a105 := Tryz.isAgg81
 z105 := Tryz.sizeOf81
 v105 := Tryz.zeroValue81
 t119 := Tryz.underlying119
 a119 := Tryz.isAgg119
 z119 := Tryz.sizeOf119
 t138 := Tryz.underlying122
 a138 := Tryz.isAgg122
 z138 := Tryz.sizeOf122
 v138 := Tryz.zeroValue122
 t139 := Tryz.underlying123
 a139 := Tryz.isAgg123
 z139 := Tryz.sizeOf123
 v139 := Tryz.zeroValue123
 g3 := by kernel_rfl
 g4 := by kernel_rfl }
open Go.RowKit Go.Lib in
def z6o : Go.Shelf.Ren := ⟨fun | 260 => 70 | n => n, fun | 9 => 9 | 21 => 21 | 3 => 3 | 4 => 4 | 5 => 5 | 119 => 119 | 0 => 0 | 46 => 120 | 139 => 123 | 138 => 122 | n => n, fun | 3 => 0 | 4 => 1 | n => n⟩
theorem zdw : Go.Proofs.Lays.n260 Tryz.prog z6o := {
 mixed := by kernel_rfl
 f260 := Tryz.func70.trans (congrArg some (by kernel_rfl))
 t0 := Tryz.underlying0
 a0 := Tryz.isAgg0
 z0 := Tryz.sizeOf0
 v0 := Tryz.zeroValue0
 t3 := Tryz.underlying3
 a3 := Tryz.isAgg3
 z3 := Tryz.sizeOf3
 v3 := Tryz.zeroValue3
 t4 := Tryz.underlying4
 a4 := Tryz.isAgg4
 z4 := Tryz.sizeOf4
 v4 := Tryz.zeroValue4
 t5 := Tryz.underlying5
 a5 := Tryz.isAgg5
 z5 := Tryz.sizeOf5
 v5 := Tryz.zeroValue5
 t9 := Tryz.underlying9
 a9 := Tryz.isAgg9
 z9 := Tryz.sizeOf9
 v9 := Tryz.zeroValue9
 t21 := Tryz.underlying21
 a21 := Tryz.isAgg21
 z21 := Tryz.sizeOf21
 v21 := Tryz.zeroValue21
 t46 := Tryz.underlying120
 a46 := Tryz.isAgg120
 z46 := Tryz.sizeOf120
 v46 := Tryz.zeroValue120
 t119 := Tryz.underlying119
 a119 := Tryz.isAgg119
 z119 := Tryz.sizeOf119
 t138 := Tryz.underlying122
 a138 := Tryz.isAgg122
 z138 := Tryz.sizeOf122
 v138 := Tryz.zeroValue122
 t139 := Tryz.underlying123
 a139 := Tryz.isAgg123
 z139 := Tryz.sizeOf123
 v139 := Tryz.zeroValue123
 g3 := by kernel_rfl
 g4 := by kernel_rfl }
open Go.RowKit Go.Lib in
open Go.RowKit Go.Lib in
theorem utf8_DecodeRuneInString (s : ByteArray) (w : World) (hT : Lib.Utf8Tabs 0 1 w) :
  Calls Tryz.prog 52 #[.string s] w fun e w' => e = .returned (.tuple #[.int .i32 (Lib.decodeGo s).1, .int .i64 (Lib.decodeGo s).2]) ∧ Below w.heap.size w w' := Any.utf8_DecodeRuneInString zqm s w hT
end Go.Proofs.YtjmbjgecfpggdaaGreatDoor
namespace Go.Proofs.YtjmbjgecfpggdaaGreatDoor
open Go.Ab Go.Rx
set_option maxHeartbeats 20000000
set_option maxRecDepth 100000
attribute [local irreducible] Run Ops Op1 z2r Val Tr z1n z36 NF Rel z5q z5r
/-- what the library's tables of encodings hold -/
structure Tab where
 o0 : Obj
 o1 : Obj
 ok : ∀ w : World, w.heap[0]? = some o0 → w.heap[1]? = some o1 → Lib.Utf8Tabs 0 1 w
variable {τ : Tab}
abbrev zd9 (τ : Tab) (e : Nat) : List (Nm × Blk) := [((e, 700), .glob 0 τ.o0), ((e, 701), .glob 1 τ.o1)]
structure HT (τ : Tab) (e : Nat) (H : Hf) : Prop where
 a : H e 700 = some (.glob 0 τ.o0)
 b : H e 701 = some (.glob 1 τ.o1)
theorem HT.of {e : Nat} {H : Hf} {bs : List (Nm × Blk)} (h : ∀ q ∈ bs ++ zd9 τ e, H q.1.1 q.1.2 = some q.2) : HT τ e H :=
 ⟨h ((e, 700), .glob 0 τ.o0) (by simp), h ((e, 701), .glob 1 τ.o1) (by simp)⟩
theorem HT.upd {e d X : Nat} {H : Hf} {b : Blk} (h : HT τ e H) (h0 : X ≠ 700) (h1 : X ≠ 701) : HT τ e (upd H (d, X) b) := by
 refine ⟨?_, ?_⟩
 · have := zer H (d, X) (e, 700) b (fun q => h0 (Prod.mk.inj q).2.symm)
   exact this.trans h.a
 · have := zer H (d, X) (e, 701) b (fun q => h1 (Prod.mk.inj q).2.symm)
   exact this.trans h.b
theorem bkT {e n : Nat} {tm : List (Nat × PV)} {hp : Hp} {up : Hf} (h : HT τ e up) : BkE ⟨n, tm, hp, up⟩ (zd9 τ (e + 1)) :=
 z0s (m := (e + 1, 700)) h.a (z0s (m := (e + 1, 701)) h.b zpb)
theorem HT.push {e : Nat} {H : Hf} (hp : Hp) (h : HT τ e H) : HT τ (e + 1) (Ab.push hp H) := ⟨h.a, h.b⟩
/-- the first code point of a string -/
theorem zhp (τ : Tab) (s : ByteArray) (e : Nat) : z36 Tryz.prog 52 [S s] (zd9 τ e) [] (.tup [I .i32 ((Lib.decodeGo s).1 : Nat), I .i64 ((Lib.decodeGo s).2 : Nat)]) := by
 refine zb8 ⟨_, Tryz.func52, by kernel_rfl, by kernel_rfl⟩ fun H hH β own w vals hHR hA => ?_
 obtain ⟨hl, ha⟩ := hA
 obtain ⟨v, rfl⟩ : ∃ v, vals = [v] := by
  match vals, hl with
  | [v], _ => exact ⟨v, rfl⟩
 have hv := PR.lit (ha 0 _ v rfl rfl)
 subst hv
 have h0 := hHR.blk (e, 700) (.glob 0 τ.o0) (by
  have := hH ((e, 700), .glob 0 τ.o0) (by simp)
  cases e with
  | zero => exact this
  | succ e => simp only [z1f]; rw [this]; rfl)
 have h1 := hHR.blk (e, 701) (.glob 1 τ.o1) (by
  have := hH ((e, 701), .glob 1 τ.o1) (by simp)
  cases e with
  | zero => exact this
  | succ e => simp only [z1f]; rw [this]; rfl)
 have hT : Lib.Utf8Tabs 0 1 w := by
  refine τ.ok w ?_ ?_
  · generalize β (e, 700) = x at h0
    cases h0 with | glob _ _ ho hg hd => exact hg
  · generalize β (e, 701) = x at h1
    cases h1 with | glob _ _ ho hg hd => exact hg
 refine ⟨_, utf8_DecodeRuneInString s w hT, fun w' own' => ?_⟩
 refine .tup _ _ rfl fun j p v hp hv => ?_
 match j, hp, hv with
 | 0, hp, hv => simp at hp hv; subst hp; subst hv; exact PR.I _ _
 | 1, hp, hv => simp at hp hv; subst hp; subst hv; exact PR.I _ _
/-- the reader of expressions: the text, the place, the error -/
abbrev pbx (s : ByteArray) (at_ : Int) (a e : Int) : Blk := .box [S s, I .i64 at_, I .i64 a, I .i64 e]
section
variable {X : Nat} (hX0 : X ≠ 700) (hX1 : X ≠ 701)
theorem z4t (τ : Tab) (s : ByteArray) (i : Nat) (hi : i ≤ s.size) (a e : Int) (e0 : Nat) : z36 Tryz.prog 33 [.ptr (e0, X) 0] (((e0, X), pbx s i a e) :: zd9 τ (e0 + 1)) [] (I .i32 (nx (rst s i))) := by
 refine z42 fun H hH => ?_
 have hX := hH ((e0, X), pbx s i a e) (by simp)
 have hT : HT τ (e0 + 1) H := HT.of (bs := [((e0, X), pbx s i a e)]) hH
 refine z16 Tryz.func33 (by kernel_rfl) rfl (by simp) ?_
 dsimp only [Tryz.f33]
 by_cases hlt : i < s.size
 · have hd := zhp τ (s.extract i s.size) (e0 + 1 + 1)
   rw [zss s i hlt] at hd
   rw [zac hlt]
   repeat' (first | (apply z0e; (refine z13 rfl (by decide) ?_)) | (apply z0f; (first | refine z0z ?_ | apply z0c)) | (apply z0d; (first | apply z0h | apply z01 | apply z06 | apply z3w | refine z1o rfl (fun _ => ?_) (fun _ => ?_))) | (apply z3x; (first | (apply z1v; refine z2o mix (by kernel_rfl) ?_) | refine z47 rfl (by first | exact rfl | exact ⟨_, rfl, rfl, rfl⟩) (by decide) ?_ | (apply z1g; (refine z0n (z0k (b := pbx s i a e) rfl rfl rfl rfl) (by first | exact rfl | exact ⟨_, rfl, rfl, rfl⟩) rfl (bkN hX) (by decide) ?_)) | (apply z1b; (refine z0n (z03 rfl rfl) (by first | exact rfl | exact ⟨_, rfl, rfl, rfl⟩) rfl rfl (by decide) ?_)) | (apply zaw; (refine z0n (zc7 rfl (by omega) (by omega)) (by first | exact rfl | exact ⟨_, rfl, rfl, rfl⟩) rfl rfl (by decide) ?_)) | (apply z4h; (refine z0n (z48 rfl) (by first | exact rfl | exact ⟨_, rfl, rfl, rfl⟩) rfl rfl (by decide) ?_)) | (apply z2v; (refine zl2 hd (by first | exact rfl | exact ⟨_, rfl, rfl, rfl⟩) rfl (bkT hT) (by decide) ?_)))))
   all_goals try (exfalso; omega)
   exact z07 Tryz.func33 _ (z0a rfl rfl) ⟨rfl, rfl⟩
 · rw [z3m (by omega)]
   obtain rfl : i = s.size := by omega
   repeat' (first | (apply z0e; (refine z13 rfl (by decide) ?_)) | (apply z0f; (first | refine z0z ?_ | apply z0c)) | (apply z0d; (first | apply z0h | apply z01 | apply z06 | apply z3w | refine z1o rfl (fun _ => ?_) (fun _ => ?_))) | (apply z3x; (first | (apply z1v; refine z2o mix (by kernel_rfl) ?_) | refine z47 rfl (by first | exact rfl | exact ⟨_, rfl, rfl, rfl⟩) (by decide) ?_ | (apply z1g; (refine z0n (z0k (b := pbx s s.size a e) rfl rfl rfl rfl) (by first | exact rfl | exact ⟨_, rfl, rfl, rfl⟩) rfl (bkN hX) (by decide) ?_)) | (apply z1b; (refine z0n (z03 rfl rfl) (by first | exact rfl | exact ⟨_, rfl, rfl, rfl⟩) rfl rfl (by decide) ?_)) | (apply z4h; (refine z0n (z48 rfl) (by first | exact rfl | exact ⟨_, rfl, rfl, rfl⟩) rfl rfl (by decide) ?_)))))
   all_goals try (exfalso; omega)
   exact z07 Tryz.func33 _ (z0a rfl rfl) ⟨rfl, rfl⟩
theorem zp1 (τ : Tab) (s : ByteArray) (i : Nat) (hi : i < s.size) (hs : s.size ≤ 1000000) (a e : Int) (e0 : Nat) : z36 Tryz.prog 99 [.ptr (e0, X) 0] (((e0, X), pbx s i a e) :: zd9 τ (e0 + 1)) [((e0, X), pbx s ((i + (Utf8.decode s i).2 : Nat) : Int) a e)] (.tup []) := by
 refine z42 fun H hH => ?_
 have hX := hH ((e0, X), pbx s i a e) (by simp)
 have hT : HT τ (e0 + 1) H := HT.of (bs := [((e0, X), pbx s i a e)]) hH
 have hw := z97 s i hi
 refine z16 Tryz.func99 (by kernel_rfl) rfl (by simp) ?_
 dsimp only [Tryz.f99]
 have hd := zhp τ (s.extract i s.size) (e0 + 1 + 1)
 rw [zss s i hi] at hd
 repeat' (first | (apply z0e; (first | refine z13 rfl (by decide) ?_ | (apply z09; (refine z00 (z0k (b := pbx s i a e) rfl rfl rfl rfl) rfl (bkN hX) (by decide) ?_)) | (apply z08; (refine z00 (z03 rfl rfl) rfl rfl (by decide) ?_)) | (apply z19; (refine z00 (z1e (z1s (by omega) (by omega))) rfl rfl (by decide) ?_)) | (apply z0i; (refine z18 (raw := pbx s i a e) (raw' := pbx s (i + (Utf8.decode s i).2) a e) rfl hX rfl rfl rfl rfl rfl rfl ?_)))) | (apply z0f; (first | refine z0z ?_ | apply z0c)) | (apply z0d; (first | apply z0h | apply z01 | apply z3w)) | (apply z3x; (first | (apply z1v; refine z2o mix (by kernel_rfl) ?_) | refine z47 rfl (by first | exact rfl | exact ⟨_, rfl, rfl, rfl⟩) (by decide) ?_ | (apply z1g; (refine z0n (z0k (b := pbx s i a e) rfl rfl rfl rfl) (by first | exact rfl | exact ⟨_, rfl, rfl, rfl⟩) rfl (bkN hX) (by decide) ?_)) | (apply z1b; (refine z0n (z03 rfl rfl) (by first | exact rfl | exact ⟨_, rfl, rfl, rfl⟩) rfl rfl (by decide) ?_)) | (apply zaw; (refine z0n (zc7 rfl (by omega) (by omega)) (by first | exact rfl | exact ⟨_, rfl, rfl, rfl⟩) rfl rfl (by decide) ?_)) | (apply z2v; (refine zl2 hd (by first | exact rfl | exact ⟨_, rfl, rfl, rfl⟩) rfl (bkT hT) (by decide) ?_)))))
 all_goals try (exfalso; omega)
 rw [← Int.natCast_add]
 exact zo4 Tryz.func99 _ (z9a rfl) ⟨rfl, rfl⟩
theorem z5v (s : ByteArray) (p : PV) (at_ n : Int) (e0 : Nat) (hn : n ≠ 0) : z36 Tryz.prog 16 [.ptr (e0, X) 0, I .i64 at_, I .i64 n] [((e0, X), .box [S s, p, I .i64 0, I .i64 0])] [((e0, X), .box [S s, p, I .i64 at_, I .i64 n])] (B false) := by
 refine z42 fun H hH => ?_
 have hX := hH ((e0, X), .box [S s, p, I .i64 0, I .i64 0]) (by simp)
 refine z16 Tryz.func16 (by kernel_rfl) rfl (by simp) ?_
 dsimp only [Tryz.f16]
 repeat' (first | (apply z0e; (first | refine z13 rfl (by decide) ?_ | (apply z09; (refine z00 (z0k (b := .box [S s, p, I .i64 0, I .i64 0]) rfl rfl rfl rfl) rfl (bkN hX) (by decide) ?_)) | (apply z08; (refine z00 (z03 rfl rfl) rfl rfl (by decide) ?_)) | (apply z0i; (first | refine z18 (raw := .box [S s, p, I .i64 at_, I .i64 0]) (raw' := .box [S s, p, I .i64 at_, I .i64 n]) rfl (z05 H (e0, X) _) rfl rfl rfl rfl rfl rfl ?_ | refine z18 (raw := .box [S s, p, I .i64 0, I .i64 0]) (raw' := .box [S s, p, I .i64 at_, I .i64 0]) rfl hX rfl rfl rfl rfl rfl rfl ?_)))) | (apply z0f; (first | refine z0z ?_ | apply z0c)) | (apply z0d; (first | apply z0h | apply z01 | refine z0o rfl ?_)))
 all_goals try (exfalso; omega)
 rw [z0x]
 exact z07 Tryz.func16 _ (z0a rfl rfl) ⟨rfl, rfl⟩
end
end Go.Proofs.YtjmbjgecfpggdaaGreatDoor
namespace Go.Proofs.YtjmbjgecfpggdaaGreatDoor
open Go.Ab Go.Rx
set_option maxHeartbeats 20000000
set_option maxRecDepth 100000
attribute [local irreducible] Run Ops Op1 z2r Val Tr z1n z36 NF Rel z5q z5r
theorem z9h {g : FuncId} {ps : List PV} {p : PV} (hp : Plain Tryz.prog g) (h : ∀ β own w vals, z7f β w own ps vals → ∃ v, Calls Tryz.prog g vals.toArray w (fun e w' => e = .returned v ∧ w' = w) ∧ ∀ w' own', PR β w' own' p v) : z1n Tryz.prog g ps p := by
 have := zb8 (bs := []) hp fun H hH β own w vals hHR hA => by
  obtain ⟨v, hc, hv⟩ := h β own w vals hA
  exact ⟨v, hc.mono fun e w' ⟨h1, h2⟩ => ⟨h1, by subst h2; exact RowKit.Below.refl _ _⟩, hv⟩
 unfold z1n
 intro H
 unfold z36 at this
 have h2 := this H (by simp)
 exact h2
theorem zki (s : ByteArray) (c : Int) : z1n Tryz.prog 105 [S s, I .u8 c] (I .i64 (Lib.indexByte s.data.toList c.toNat.toUInt8)) := by
 refine z9h ⟨_, Tryz.func105, by kernel_rfl, by kernel_rfl⟩ fun β own w vals hA => ?_
 obtain ⟨hl, ha⟩ := hA
 obtain ⟨v, u, rfl⟩ : ∃ v u, vals = [v, u] := by
  match vals, hl with
  | [v, u], _ => exact ⟨v, u, rfl⟩
 have hv := PR.lit (ha 0 _ v rfl rfl)
 have hu := PR.lit (ha 1 _ u rfl rfl)
 subst hv hu
 exact ⟨_, strings_IndexByte s c w, fun w' own' => PR.I _ _⟩
theorem zge (r : Int) : z1n Tryz.prog 106 [I .i32 r] (B (Lib.validRune r)) := by
 refine z9h ⟨_, Tryz.func106, by kernel_rfl, by kernel_rfl⟩ fun β own w vals hA => ?_
 obtain ⟨hl, ha⟩ := hA
 obtain ⟨v, rfl⟩ : ∃ v, vals = [v] := by
  match vals, hl with
  | [v], _ => exact ⟨v, rfl⟩
 have hv := PR.lit (ha 0 _ v rfl rfl)
 subst hv
 exact ⟨_, utf8_ValidRune r w, fun w' own' => PR.B _⟩
/-- signs as a string -/
def spB (l : List Int) : ByteArray := ⟨(l.map fun c => UInt8.ofNat c.toNat).toArray⟩
theorem zjy : ∀ (l : List UInt8) (c : UInt8), (∀ b ∈ l, b ≠ c) → Lib.indexByte l c = -1
 | [], c, _ => rfl
 | b :: l, c, h => by
  have hb : (b == c) = false := by simpa using h b (by simp)
  rw [Lib.indexByte, hb, zjy l c fun x hx => h x (by simp [hx])]; rfl
structure Sp (sp : List Int) : Prop where
 size : 5 ≤ (spB sp).size ∧ (spB sp).size ≤ 12
 asc : ∀ b ∈ (spB sp).data.toList, b.toNat < 128
 idx : ∀ c : Fin 128, decide (0 ≤ Lib.indexByte (spB sp).data.toList (UInt8.ofNat c.val)) = sp.contains (c.val : Int)
 rng : ∀ c ∈ sp, 0 ≤ c ∧ c < 128
theorem zug : Sp spA := ⟨by decide, by decide, by decide +kernel, by decide⟩
theorem zrw : Sp spC := ⟨by decide, by decide, by decide +kernel, by decide⟩
def ixR (sp : List Int) (c : Int) : Int := if 0 ≤ c ∧ c < 128 then Lib.indexByte (spB sp).data.toList c.toNat.toUInt8 else -1
theorem zut {sp : List Int} (h : Sp sp) (c : Int) : decide (0 ≤ ixR sp c) = sp.contains c := by
 rw [ixR]
 by_cases hc : 0 ≤ c ∧ c < 128
 · rw [if_pos hc]
   have := h.idx ⟨c.toNat, by omega⟩
   rw [show (((⟨c.toNat, by omega⟩ : Fin 128).val : Nat) : Int) = c by simp; omega] at this
   exact this
 · rw [if_neg hc]
   symm
   rw [show decide ((0 : Int) ≤ -1) = false by decide, Bool.eq_false_iff]
   intro h2
   exact hc (h.rng c (by simpa using h2))
theorem zpw {sp : List Int} (h : Sp sp) {i : Nat} (hi : i < (spB sp).size) : ∃ b, (spB sp)[i]? = some b ∧ b.toNat < 128 := by
 refine ⟨(spB sp)[i], getElem?_pos _ i hi, h.asc _ ?_⟩
 exact Array.getElem_mem_toList (by exact hi)
theorem zn1 {c : Int} (h : 128 ≤ c) (hv : Utf8.valid c = true) : ∃ b, 2 ≤ (Utf8.encode c).size ∧ (Utf8.encode c).size ≤ 4 ∧ (Utf8.encode c)[(Utf8.encode c).size - 1]? = some b ∧ 128 ≤ b.toNat := by
 have h2 : c.toNat ≤ 1114111 := by
  have := zi0 (c := c.toNat) (by rw [show ((c.toNat : Nat) : Int) = c by omega]; exact hv)
  exact this
 obtain ⟨n, rfl⟩ : ∃ n : Nat, c = n := ⟨c.toNat, by omega⟩
 unfold Utf8.encode
 simp only [hv, if_true, Int.toNat_natCast]
 have hm : ∀ q : Nat, (UInt8.ofNat (128 + q % 64)).toNat = 128 + q % 64 := fun q => by simp; omega
 have h3 : 128 ≤ n := by omega
 rw [if_neg (show ¬ n < 128 by omega)]
 split
 · exact ⟨UInt8.ofNat (128 + n % 64), (show 2 ≤ 2 by decide), (show 2 ≤ 4 by decide), rfl, by rw [hm]; omega⟩
 split
 · exact ⟨UInt8.ofNat (128 + n % 64), (show 2 ≤ 3 by decide), (show 3 ≤ 4 by decide), rfl, by rw [hm]; omega⟩
 · exact ⟨UInt8.ofNat (128 + n % 64), (show 2 ≤ 4 by decide), (show 4 ≤ 4 by decide), rfl, by rw [hm]; omega⟩
theorem zoc (c : Int) : Lib.validRune c = Utf8.valid c := by
 unfold Lib.validRune Utf8.valid
 rw [Bool.eq_iff_iff, decide_eq_true_eq, Bool.or_eq_true, Bool.and_eq_true, Bool.and_eq_true, decide_eq_true_eq, decide_eq_true_eq, decide_eq_true_eq, decide_eq_true_eq]
 omega
theorem zkv {sp : List Int} (hsp : Sp sp) (c : Int) (hc0 : -1 ≤ c) (hc1 : c ≤ 1114111) : z1n Tryz.prog 92 [S (spB sp), I .i32 c] (I .i64 (ixR sp c)) := by
 refine z1u fun H => ?_
 refine z16 Tryz.func92 (by kernel_rfl) rfl (by simp) ?_
 dsimp only [Tryz.f92]
 have hsz := hsp.size
 by_cases h1 : 0 ≤ c ∧ c < 128
 · have hi := zki (spB sp) c
   rw [ixR, if_pos h1]
   have hw8 : IntKind.u8.wrap c = c := by simp [IntKind.wrap, IntKind.bits, IntKind.signed]; omega
   repeat' (first | (apply z0e; (first | refine z13 rfl (by decide) ?_ | (apply z0l; (refine z1z hi rfl (by decide) ?_)) | (apply z4p; (refine z00 (z6h rfl rfl hw8) rfl rfl (by decide) ?_)))) | (apply z0f; (first | refine z0z ?_ | apply z0c | refine z2e rfl rfl (by decide) ?_ | refine z0u rfl rfl (fun _ => ?_) (fun _ => ?_))) | (apply z0d; (first | apply z0h | apply z01 | refine z0g rfl ?_ | apply z02 | refine z1o rfl (fun _ => ?_) (fun _ => ?_))))
   all_goals try (exfalso; omega)
   exact z07 Tryz.func92 _ (z0a rfl rfl) ⟨rfl, rfl⟩
 rw [ixR, if_neg h1]
 by_cases h2 : c = 65533
 · subst h2
   repeat' (first | (apply z0e; (first | refine z13 rfl (by decide) ?_ | refine zb5 rfl rfl rfl (by decide) ?_)) | (apply z0f; (first | refine z0z ?_ | apply z0c)) | (apply z0d; (first | apply z0h | apply z01 | refine z0o rfl ?_ | refine z0g rfl ?_ | apply z02)))
   all_goals try (exfalso; omega)
   refine z2b ?_
   refine z0y (z3e (fun q : Nat => ⟨187, [(175, .ptr (0, 175) 0)], [(175, .siter (spB sp) q)], H⟩) (fun q => True) (fun q => (spB sp).size - q) ?_ 0 trivial) rfl rfl
   intro q _ ih
   by_cases hlt : q < (spB sp).size
   · have hda := decode_ascii (spB sp) q hlt (hsp.asc _ (Array.getElem_mem_toList (by exact hlt)))
     have hb := hsp.asc _ (Array.getElem_mem_toList (xs := (spB sp).data) (by exact hlt))
     have hne : ((Utf8.decode (spB sp) q).1 : Int) ≠ 65533 := by
      rw [hda]
      have : ((spB sp)[q]'hlt).toNat < 128 := hb
      simp only; omega
     have hw := z97 (spB sp) q hlt
     repeat' (first | (apply z0e; (first | refine z13 rfl (by decide) ?_ | refine z3y hlt rfl rfl (by decide) ?_)) | (apply z0f; (first | refine z0z ?_ | apply z0c)) | (apply z0d; (first | apply z0h | apply z01 | refine z0o rfl ?_ | apply z06 | apply z02 | apply z04 | refine z1o rfl (fun _ => ?_) (fun _ => ?_))))
     all_goals try (exfalso; omega)
     exact z0y (ih _ trivial (by omega)) rfl rfl
   · repeat' (first | (apply z0e; (first | refine z13 rfl (by decide) ?_ | refine z3z hlt rfl rfl (by decide) ?_)) | (apply z0f; (first | refine z0z ?_ | apply z0c)) | (apply z0d; (first | apply z0h | apply z01 | refine z0g rfl ?_ | refine z0r rfl ?_)))
     all_goals try (exfalso; omega)
     exact z07 Tryz.func92 _ (z0a rfl rfl) ⟨rfl, rfl⟩
 have hv := zge c
 rw [zoc] at hv
 cases hvv : Utf8.valid c with
 | false =>
  rw [hvv] at hv
  repeat' (first | (apply z0e; (first | refine z13 rfl (by decide) ?_ | (apply z0l; (refine z1z hv rfl (by decide) ?_)))) | (apply z0f; (first | refine z0z ?_ | apply z0c | refine z2e rfl rfl (by decide) ?_ | refine z0u rfl rfl (fun _ => ?_) (fun _ => ?_))) | (apply z0d; (first | apply z0h | apply z01 | refine z0o rfl ?_ | refine z0g rfl ?_ | apply z02 | refine z1o rfl (fun _ => ?_) (fun _ => ?_))))
  all_goals try (exfalso; omega)
  all_goals exact z07 Tryz.func92 _ (z0a rfl rfl) ⟨rfl, rfl⟩
 | true =>
  rw [hvv] at hv
  have hc : 128 ≤ c := by
   false_or_by_contra
   have : c = -1 := by omega
   subst this; revert hvv; decide
  obtain ⟨b, e1, e2, e3, e4⟩ := zn1 hc hvv
  have e3' : (Utf8.encode c)[(((Utf8.encode c).size : Int) - 1).toNat]? = some b := by rw [← e3]; congr 1; omega
  obtain ⟨b0, f1, f2⟩ := zpw hsp (i := (Utf8.encode c).size - 1) (by omega)
  have f1' : (spB sp)[(((Utf8.encode c).size : Int) - 1).toNat]? = some b0 := by rw [← f1]; congr 1; omega
  have hi := zki ((spB sp).extract (((Utf8.encode c).size : Int) - 1 + 1).toNat (spB sp).size) b.toNat
  rw [zjy _ _ (fun x hx => by
   have hm : x ∈ (spB sp).data.toList := by
    rw [ByteArray.data_extract, Array.toList_extract] at hx
    exact List.mem_of_mem_drop (List.mem_of_mem_take hx)
   have := hsp.asc x hm
   intro he
   subst he
   simp at e4 this; omega)] at hi
  repeat' (first | (apply z0e; (first | refine z13 rfl (by decide) ?_ | (apply z19; (refine z00 (z4a (z1s (by omega) (by omega))) rfl rfl (by decide) ?_)) | (apply z1k; (refine z00 (z48 rfl) rfl rfl (by decide) ?_)) | (apply z0l; (refine z1z hv rfl (by decide) ?_)) | (apply z4p; (refine z00 (z4v rfl rfl) rfl rfl (by decide) ?_)))) | (apply z0f; (first | refine z0z ?_ | apply z0c | refine z2e rfl rfl (by decide) ?_ | refine z0u rfl rfl (fun _ => ?_) (fun _ => ?_))) | (apply z0d; (first | apply z0h | apply z01 | refine z0g rfl ?_ | apply z02 | apply zkl | refine z1o rfl (fun _ => ?_) (fun _ => ?_))))
  all_goals try (exfalso; omega)
  refine z2b ?_
  refine zdj ?_
  repeat' (first | (apply z0e; (first | refine z13 rfl (by decide) ?_ | (apply z1k; (refine z00 (z48 rfl) rfl rfl (by decide) ?_)))) | (apply z0f; (first | refine z0z ?_ | apply z0c)) | (apply z0d; (first | apply z0h | apply z01 | refine z0o rfl ?_ | apply z06 | apply z02 | apply zkl | apply z3w | refine z1o rfl (fun _ => ?_) (fun _ => ?_) | refine z2w rfl (fun _ => ?_) (fun _ => ?_) | refine z0r rfl ?_)) | (apply z3x; (first | (apply z1v; refine z2o mix (by kernel_rfl) ?_) | refine z47 rfl (by first | exact rfl | exact ⟨_, rfl, rfl, rfl⟩) (by decide) ?_ | (apply zk5; (first | refine z0n (zgv rfl (by omega) e3') (by first | exact rfl | exact ⟨_, rfl, rfl, rfl⟩) rfl rfl (by decide) ?_ | refine z0n (zgv rfl (by omega) f1') (by first | exact rfl | exact ⟨_, rfl, rfl, rfl⟩) rfl rfl (by decide) ?_)) | (apply z4y; (refine z0n (z1e (z1s (by omega) (by omega))) (by first | exact rfl | exact ⟨_, rfl, rfl, rfl⟩) rfl rfl (by decide) ?_)) | (apply zaw; (refine z0n (zc7 rfl (by omega) (by omega)) (by first | exact rfl | exact ⟨_, rfl, rfl, rfl⟩) rfl rfl (by decide) ?_)) | (apply z2v; (refine z8z hi (by first | exact rfl | exact ⟨_, rfl, rfl, rfl⟩) rfl (by decide) ?_)))))
  all_goals try (exfalso; omega)
  exact z07 Tryz.func92 _ (z0a rfl rfl) ⟨rfl, rfl⟩
theorem z52 {sp : List Int} (hsp : Sp sp) (c : Int) (hc0 : -1 ≤ c) (hc1 : c ≤ 1114111) : z1n Tryz.prog 77 [S (spB sp), I .i32 c] (B (sp.contains c)) := by
 refine z1u fun H => ?_
 refine z16 Tryz.func77 (by kernel_rfl) rfl (by simp) ?_
 dsimp only [Tryz.f77]
 have h := zkv hsp c hc0 hc1
 rw [← zut hsp]
 repeat' (first | (apply z0e; (first | refine z13 rfl (by decide) ?_ | (apply z0l; (refine z1z h rfl (by decide) ?_)))) | (apply z0f; (first | refine z0z ?_ | apply z0c)) | (apply z0d; (first | apply z0h | apply z01)))
 all_goals try (exfalso; omega)
 exact z07 Tryz.func77 _ (z0a rfl rfl) ⟨rfl, rfl⟩
end Go.Proofs.YtjmbjgecfpggdaaGreatDoor
namespace Go.Proofs.YtjmbjgecfpggdaaGreatDoor
open Go.Ab Go.Rx
set_option maxHeartbeats 20000000
set_option maxRecDepth 100000
attribute [local irreducible] Run Ops Op1 z2r Val Tr z1n z36 NF Rel z5q z5r
theorem zqu {s : ByteArray} {i : Nat} (hi : i < s.size) (h : (Utf8.decode s i).1 < 128) : (Utf8.decode s i).2 = 1 := by
 by_cases ha : (s[i]'hi).toNat < 128
 · rw [decode_ascii s i hi ha]
 · have := (decode_high s i hi (by omega)).1; omega
theorem zr6 {s : ByteArray} {i : Nat} (hi : i ≤ s.size) (h : 0 ≤ nx (rst s i)) : i < s.size := by
 false_or_by_contra
 rw [z3m (by omega)] at h; simp [nx] at h
theorem zhv (s : ByteArray) (i : Nat) : -1 ≤ nx (rst s i) ∧ nx (rst s i) ≤ 1114111 := by
 by_cases hi : i < s.size
 · rw [zac hi]; have := zh8 s i; omega
 · rw [z3m (by omega)]; simp [nx]
/-- an ASCII sign is read by one step -/
theorem z2u {s : ByteArray} {i : Nat} (hi : i ≤ s.size) {c : Int} (hc : nx (rst s i) = c) (h0 : 0 ≤ c) (h1 : c < 128) : i < s.size ∧ (rst s i).tail = rst s (i + 1) ∧ rst s i = ⟨c, 1⟩ :: rst s (i + 1) := by
 have hlt := zr6 hi (by omega)
 rw [zac hlt] at hc
 have hw := zqu hlt (by omega)
 have e := z4m hlt
 rw [hw, hc] at e
 exact ⟨hlt, by rw [e]; rfl, e⟩
abbrev ebx (s : ByteArray) (a e : Int) : Blk := .box [S s, .any, I .i64 a, I .i64 e]
def zja {α : Type} (s : ByteArray) : Rd α → Blk
 | .ok _ r => pbx s ((s.size - bts r : Nat) : Int) 0 0
 | .err a e => ebx s ((s.size - bts a : Nat) : Int) e
 | .out => .gone
def z8m {α : Type} (enc : α → D) (z : D) : Rd α → PV
 | .ok a _ => .tup [.d (enc a), B true]
 | .err _ _ => .tup [.d z, B false]
 | .out => .any
theorem z4k {α : Type} {s : ByteArray} {a : α} {i : Nat} (hi : i ≤ s.size) : zja s (.ok a (rst s i)) = pbx s (i : Nat) 0 0 := by
 rw [zja, zat hi, show s.size - (s.size - i) = i by omega]
theorem z5o {α : Type} {s : ByteArray} {e : Int} {i : Nat} (hi : i ≤ s.size) : zja s (.err (rst s i) e : Rd α) = ebx s (i : Nat) e := by
 rw [zja, zat hi, show s.size - (s.size - i) = i by omega]
theorem wkP {a b c d : PV} : Wk [a, b, c, d] [a, .any, c, d] := ⟨.inl rfl, .inr rfl, .inl rfl, .inl rfl, trivial⟩
theorem zlh (c : Int) : z1n Tryz.prog 100 [I .i32 c] (B (dgt c)) := by
 refine z1u fun H => ?_
 refine z16 Tryz.func100 (by kernel_rfl) rfl (by simp) ?_
 dsimp only [Tryz.f100]
 rw [dgt]
 by_cases h1 : 48 ≤ c
 · rw [decide_eq_true h1, Bool.true_and]
   repeat' (first | (apply z0e; (refine z13 rfl (by decide) ?_)) | (apply z0f; (first | refine z0z ?_ | apply z0c | refine z2e rfl rfl (by decide) ?_ | refine z0u rfl rfl (fun _ => ?_) (fun _ => ?_))) | (apply z0d; (first | apply z0h | apply z01)))
   all_goals try (exfalso; omega)
   exact z07 Tryz.func100 _ (z0a rfl rfl) ⟨rfl, rfl⟩
 · rw [decide_eq_false h1, Bool.false_and]
   repeat' (first | (apply z0e; (refine z13 rfl (by decide) ?_)) | (apply z0f; (first | refine z0z ?_ | apply z0c | refine z2e rfl rfl (by decide) ?_ | refine z0u rfl rfl (fun _ => ?_) (fun _ => ?_))) | (apply z0d; (first | apply z0h | apply z01)))
   all_goals try (exfalso; omega)
   exact z07 Tryz.func100 _ (z0a rfl rfl) ⟨rfl, rfl⟩
section
variable {X : Nat} (hX0 : X ≠ 700) (hX1 : X ≠ 701) (τ : Tab) (s : ByteArray) (hs : s.size ≤ 1000000)
include hX0 hX1 hs
/-- a given sign is read -/
theorem zvd (i : Nat) (hi : i ≤ s.size) (c : Int) (h0 : 0 ≤ c) (h1 : c < 128) (e0 : Nat) : z36 Tryz.prog 82 [.ptr (e0, X) 0, I .i32 c] (((e0, X), pbx s i 0 0) :: zd9 τ (e0 + 1))
  [((e0, X), if nx (rst s i) = c then pbx s ((i + 1 : Nat) : Int) 0 0 else ebx s (i : Nat) 3)] (B (decide (nx (rst s i) = c))) := by
 refine z42 fun H hH => ?_
 have hX : H e0 X = some (pbx s i 0 0) := hH ((e0, X), pbx s i 0 0) (by simp)
 have hT : HT τ (e0 + 1) H := HT.of (bs := [((e0, X), pbx s i 0 0)]) hH
 refine z16 Tryz.func82 (by kernel_rfl) rfl (by simp) ?_
 dsimp only [Tryz.f82]
 have hn := z4t (X := X) τ s i hi 0 0 (e0 + 1)
 have hf := z5v (X := X) s (I .i64 i) i 3 (e0 + 1) (by decide)
 by_cases hc : nx (rst s i) = c
 · obtain ⟨hlt, _, _⟩ := z2u hi hc h0 h1
   rw [if_pos hc, decide_eq_true hc]
   repeat' (first | (apply z0e; (first | refine z13 rfl (by decide) ?_ | (apply z09; (refine z14 rfl hX rfl rfl rfl rfl (by decide) ?_)) | (apply z08; (refine z00 (z03 rfl rfl) rfl rfl (by decide) ?_)) | (apply z19; (refine z00 (z1e (z1s (by omega) (by omega))) rfl rfl (by decide) ?_)) | (apply z0l; (first | refine z34 hf rfl hX (by decide) ?_ | refine z15 hn rfl (z0s (m := (e0 + 1, X)) hX (bkT (by repeat (first | exact hT | refine HT.upd ?_ hX0 hX1)))) (by decide) ?_)) | (apply z0i; (refine z18 (raw' := pbx s ((i + 1 : Nat) : Int) 0 0) rfl hX rfl rfl rfl rfl rfl rfl ?_)))) | (apply z0f; (first | refine z0z ?_ | apply z0c)) | (apply z0d; (first | apply z0h | apply z01 | apply z06 | refine z2w rfl (fun _ => ?_) (fun _ => ?_))))
   all_goals try (exfalso; omega)
   exact z07 Tryz.func82 _ (z0a rfl rfl) ⟨rfl, rfl⟩
 · rw [if_neg hc, decide_eq_false hc]
   repeat' (first | (apply z0e; (first | refine z13 rfl (by decide) ?_ | (apply z09; (refine z14 rfl hX rfl rfl rfl rfl (by decide) ?_)) | (apply z08; (refine z00 (z03 rfl rfl) rfl rfl (by decide) ?_)) | (apply z19; (refine z00 (z1e (z1s (by omega) (by omega))) rfl rfl (by decide) ?_)) | (apply z0l; (first | refine z34 hf rfl hX (by decide) ?_ | refine z15 hn rfl (z0s (m := (e0 + 1, X)) hX (bkT (by repeat (first | exact hT | refine HT.upd ?_ hX0 hX1)))) (by decide) ?_)) | (apply z0i; (refine z18 (raw' := pbx s ((i + 1 : Nat) : Int) 0 0) rfl hX rfl rfl rfl rfl rfl rfl ?_)))) | (apply z0f; (first | refine z0z ?_ | apply z0c)) | (apply z0d; (first | apply z0h | apply z01 | apply z06 | refine z2w rfl (fun _ => ?_) (fun _ => ?_))))
   all_goals try (exfalso; omega)
   refine z5g (d := e0) (X := X) (qs := [S s, .any, I .i64 i, I .i64 3]) wkP ?_
   exact z07 Tryz.func82 _ (z0a rfl rfl) ⟨rfl, rfl⟩
end
end Go.Proofs.YtjmbjgecfpggdaaGreatDoor
namespace Go.Proofs.YtjmbjgecfpggdaaGreatDoor
open Go.Ab Go.Rx
set_option maxHeartbeats 20000000
set_option maxRecDepth 100000
attribute [local irreducible] Run Ops Op1 z2r Val Tr z1n z36 NF Rel z5q z5r
abbrev eR (c : Int) : D := .lit (.int .i32 c)
abbrev eN (c : Int) : D := .lit (.int .i64 c)
section
variable {X : Nat} (hX0 : X ≠ 700) (hX1 : X ≠ 701) (τ : Tab) (s : ByteArray) (hs : s.size ≤ 1000000)
include hX0 hX1 hs
theorem zow {sp : List Int} (hsp : Sp sp) (i : Nat) (hi : i ≤ s.size) (h0 : 0 ≤ nx (rst s i)) (hok : nx (rst s i) = 92 ∨ sp.contains (nx (rst s i)) = false) (e0 : Nat) :
  z36 Tryz.prog 85 [.ptr (e0, X) 0, S (spB sp)] (((e0, X), pbx s i 0 0) :: zd9 τ (e0 + 1)) [((e0, X), zja s (z8l sp (rst s i)))] (z8m eR (eR 0) (z8l sp (rst s i))) := by
 refine z42 fun H hH => ?_
 have hX : H e0 X = some (pbx s i 0 0) := hH ((e0, X), pbx s i 0 0) (by simp)
 have hT : HT τ (e0 + 1) H := HT.of (bs := [((e0, X), pbx s i 0 0)]) hH
 refine z16 Tryz.func85 (by kernel_rfl) rfl (by simp) ?_
 dsimp only [Tryz.f85]
 have hlt := zr6 hi h0
 have hn := z4t (X := X) τ s i hi 0 0 (e0 + 1)
 by_cases hc : nx (rst s i) = 92
 · obtain ⟨_, ht, he⟩ := z2u hi hc (by decide) (by decide)
   have hn1 := z4t (X := X) τ s (i + 1) hlt 0 0 (e0 + 1)
   have hf := z5v (X := X) s (I .i64 ((i + 1 : Nat) : Int)) ((i + 1 : Nat) : Int) 3 (e0 + 1) (by decide)
   rw [he, z4e, if_pos rfl]
   by_cases hl1 : i + 1 < s.size
   · have hr := zhv s (i + 1)
     have hcr := z52 hsp (nx (rst s (i + 1))) hr.1 hr.2
     have e1 := z4m hl1
     have hx1 := zac hl1
     have hsk := zp1 (X := X) τ s (i + 1) hl1 hs 0 0 (e0 + 1)
     have hw := z97 s (i + 1) hl1
     generalize hq : nx (rst s (i + 1)) = q at *
     rw [e1]
     simp only
     rw [← hx1]
     cases hcc : sp.contains q with
     | true =>
      rw [hcc] at hcr
      rw [if_pos rfl, z4k (by omega)]
      repeat' (first | (apply z0e; (first | refine z13 rfl (by decide) ?_ | (apply z09; (first | refine z14 rfl (z05 _ (e0, X) _) rfl rfl rfl rfl (by decide) ?_ | refine z14 rfl hX rfl rfl rfl rfl (by decide) ?_)) | (apply z08; (refine z00 (z03 rfl rfl) rfl rfl (by decide) ?_)) | (apply z19; (refine z00 (z1e (z1s (by omega) (by omega))) rfl rfl (by decide) ?_)) | (apply z0l; (first | refine z1l hsk rfl (z05 _ (e0, X) _) (bkT (by repeat (first | exact hT | refine HT.upd ?_ hX0 hX1))) (by decide) ?_ | refine z34 hf rfl (z05 _ (e0, X) _) (by decide) ?_ | refine z15 hn1 rfl (z0s (m := (e0 + 1, X)) (z05 _ (e0, X) _) (bkT (by repeat (first | exact hT | refine HT.upd ?_ hX0 hX1)))) (by decide) ?_ | refine z15 hn rfl (z0s (m := (e0 + 1, X)) hX (bkT (by repeat (first | exact hT | refine HT.upd ?_ hX0 hX1)))) (by decide) ?_ | refine z1z hcr rfl (by decide) ?_)) | (apply z0i; (refine z18 (raw' := pbx s ((i + 1 : Nat) : Int) 0 0) rfl hX rfl rfl rfl rfl rfl rfl ?_)))) | (apply z0f; (first | refine z0z ?_ | apply z0c | refine z2e rfl rfl (by decide) ?_ | refine z0u rfl rfl (fun _ => ?_) (fun _ => ?_))) | (apply z0d; (first | apply z0h | apply z01 | refine z0o rfl ?_ | refine z0g rfl ?_ | apply z06 | refine z1o rfl (fun _ => ?_) (fun _ => ?_))))
      all_goals try (exfalso; omega)
      all_goals ((repeat rw [z0x]); first | exact z07 Tryz.func85 _ (z0m rfl rfl rfl rfl rfl rfl rfl) ⟨rfl, rfl⟩ | exact z07 Tryz.func85 _ (z1h rfl rfl rfl) ⟨rfl, rfl⟩ | exact z07 Tryz.func85 _ (z0a rfl rfl) ⟨rfl, rfl⟩ | exact z07 Tryz.func85 _ (z11 rfl rfl rfl rfl) ⟨rfl, rfl⟩)
     | false =>
      rw [hcc] at hcr
      rw [if_neg (by simp), hx1, ← e1, z5o (by omega)]
      repeat' (first | (apply z0e; (first | refine z13 rfl (by decide) ?_ | (apply z09; (first | refine z14 rfl (z05 _ (e0, X) _) rfl rfl rfl rfl (by decide) ?_ | refine z14 rfl hX rfl rfl rfl rfl (by decide) ?_)) | (apply z08; (refine z00 (z03 rfl rfl) rfl rfl (by decide) ?_)) | (apply z19; (refine z00 (z1e (z1s (by omega) (by omega))) rfl rfl (by decide) ?_)) | (apply z0l; (first | refine z34 hf rfl (z05 _ (e0, X) _) (by decide) ?_ | refine z15 hn1 rfl (z0s (m := (e0 + 1, X)) (z05 _ (e0, X) _) (bkT (by repeat (first | exact hT | refine HT.upd ?_ hX0 hX1)))) (by decide) ?_ | refine z15 hn rfl (z0s (m := (e0 + 1, X)) hX (bkT (by repeat (first | exact hT | refine HT.upd ?_ hX0 hX1)))) (by decide) ?_ | refine z1z hcr rfl (by decide) ?_)) | (apply z0i; (refine z18 (raw' := pbx s ((i + 1 : Nat) : Int) 0 0) rfl hX rfl rfl rfl rfl rfl rfl ?_)))) | (apply z0f; (first | refine z0z ?_ | apply z0c | refine z2e rfl rfl (by decide) ?_ | refine z0u rfl rfl (fun _ => ?_) (fun _ => ?_))) | (apply z0d; (first | apply z0h | apply z01 | refine z0o rfl ?_ | apply z06 | refine z1o rfl (fun _ => ?_) (fun _ => ?_))))
      all_goals try (exfalso; omega)
      all_goals ((repeat rw [z0x]); refine z5g wkP ?_; first | exact z07 Tryz.func85 _ (z0m rfl rfl rfl rfl rfl rfl rfl) ⟨rfl, rfl⟩ | exact z07 Tryz.func85 _ (z1h rfl rfl rfl) ⟨rfl, rfl⟩ | exact z07 Tryz.func85 _ (z0a rfl rfl) ⟨rfl, rfl⟩ | exact z07 Tryz.func85 _ (z11 rfl rfl rfl rfl) ⟨rfl, rfl⟩)
   · have e1 := z3m (s := s) (i := i + 1) (by omega)
     have hx1 : nx (rst s (i + 1)) = -1 := by rw [e1]; rfl
     rw [e1]
     simp only
     rw [← e1, z5o (by omega)]
     rw [hx1] at hn1
     repeat' (first | (apply z0e; (first | refine z13 rfl (by decide) ?_ | (apply z09; (first | refine z14 rfl (z05 _ (e0, X) _) rfl rfl rfl rfl (by decide) ?_ | refine z14 rfl hX rfl rfl rfl rfl (by decide) ?_)) | (apply z08; (refine z00 (z03 rfl rfl) rfl rfl (by decide) ?_)) | (apply z19; (refine z00 (z1e (z1s (by omega) (by omega))) rfl rfl (by decide) ?_)) | (apply z0l; (first | refine z34 hf rfl (z05 _ (e0, X) _) (by decide) ?_ | refine z15 hn1 rfl (z0s (m := (e0 + 1, X)) (z05 _ (e0, X) _) (bkT (by repeat (first | exact hT | refine HT.upd ?_ hX0 hX1)))) (by decide) ?_ | refine z15 hn rfl (z0s (m := (e0 + 1, X)) hX (bkT (by repeat (first | exact hT | refine HT.upd ?_ hX0 hX1)))) (by decide) ?_)) | (apply z0i; (refine z18 (raw' := pbx s ((i + 1 : Nat) : Int) 0 0) rfl hX rfl rfl rfl rfl rfl rfl ?_)))) | (apply z0f; (first | refine z0z ?_ | apply z0c | refine z2e rfl rfl (by decide) ?_)) | (apply z0d; (first | apply z0h | apply z01 | refine z0o rfl ?_ | apply z06 | refine z1o rfl (fun _ => ?_) (fun _ => ?_))))
     all_goals try (exfalso; omega)
     all_goals ((repeat rw [z0x]); refine z5g wkP ?_; first | exact z07 Tryz.func85 _ (z0m rfl rfl rfl rfl rfl rfl rfl) ⟨rfl, rfl⟩ | exact z07 Tryz.func85 _ (z1h rfl rfl rfl) ⟨rfl, rfl⟩ | exact z07 Tryz.func85 _ (z0a rfl rfl) ⟨rfl, rfl⟩ | exact z07 Tryz.func85 _ (z11 rfl rfl rfl rfl) ⟨rfl, rfl⟩)
 · have hok' := hok.resolve_left hc
   have e0' := z4m hlt
   have hx := zac hlt
   have hw := z97 s i hlt
   have hsk := zp1 (X := X) τ s i hlt hs 0 0 (e0 + 1)
   generalize hq : nx (rst s i) = q at *
   rw [e0', z4e]
   simp only
   rw [← hx, if_neg hc, if_neg (by rw [hok']; decide), z4k (by omega)]
   repeat' (first | (apply z0e; (first | refine z13 rfl (by decide) ?_ | (apply z09; (refine z14 rfl hX rfl rfl rfl rfl (by decide) ?_)) | (apply z08; (refine z00 (z03 rfl rfl) rfl rfl (by decide) ?_)) | (apply z19; (refine z00 (z1e (z1s (by omega) (by omega))) rfl rfl (by decide) ?_)) | (apply z0l; (first | refine z1l hsk rfl hX (bkT (by repeat (first | exact hT | refine HT.upd ?_ hX0 hX1))) (by decide) ?_ | refine z15 hn rfl (z0s (m := (e0 + 1, X)) hX (bkT (by repeat (first | exact hT | refine HT.upd ?_ hX0 hX1)))) (by decide) ?_)))) | (apply z0f; (first | refine z0z ?_ | apply z0c)) | (apply z0d; (first | apply z0h | apply z01 | apply z06 | refine z1o rfl (fun _ => ?_) (fun _ => ?_))))
   all_goals try (exfalso; omega)
   all_goals ((repeat rw [z0x]); first | exact z07 Tryz.func85 _ (z0m rfl rfl rfl rfl rfl rfl rfl) ⟨rfl, rfl⟩ | exact z07 Tryz.func85 _ (z1h rfl rfl rfl) ⟨rfl, rfl⟩ | exact z07 Tryz.func85 _ (z0a rfl rfl) ⟨rfl, rfl⟩ | exact z07 Tryz.func85 _ (z11 rfl rfl rfl rfl) ⟨rfl, rfl⟩)
end
end Go.Proofs.YtjmbjgecfpggdaaGreatDoor
namespace Go.Proofs.YtjmbjgecfpggdaaGreatDoor
open Go.Ab Go.Rx
set_option maxHeartbeats 20000000
set_option maxRecDepth 100000
attribute [local irreducible] Run Ops Op1 z2r Val Tr z1n z36 NF Rel z5q z5r
theorem zsf {c : Int} (h : dgt c = true) : 48 ≤ c ∧ c ≤ 57 := by simpa [dgt] using h
theorem zax {k c : Int} {n : Nat} {l : List U} : zbf k (⟨c, n⟩ :: l) = if dgt c = false then .err (⟨c, n⟩ :: l) 3
  else if 0 < c - 48 ∧ l = [] then .err [] 3
  else if 0 < c - 48 ∧ dgt (nx l) = true then
   (if 16 < 10 * (c - 48) + (nx l - 48) ∨ 10 * (c - 48) + (nx l - 48) < k then .err (⟨c, n⟩ :: l) 8 else .ok (10 * (c - 48) + (nx l - 48)) l.tail)
  else if 16 < c - 48 ∨ c - 48 < k then .err (⟨c, n⟩ :: l) 8 else .ok (c - 48) l := rfl
section
variable {X : Nat} (hX0 : X ≠ 700) (hX1 : X ≠ 701) (τ : Tab) (s : ByteArray) (hs : s.size ≤ 1000000)
include hX0 hX1 hs
theorem zay (i : Nat) (hi : i ≤ s.size) (e0 : Nat) :
  z36 Tryz.prog 96 [.ptr (e0, X) 0] (((e0, X), pbx s i 0 0) :: zd9 τ (e0 + 1)) [((e0, X), zja s (z8l spC (rst s i)))] (z8m eR (eR 0) (z8l spC (rst s i))) := by
 refine z42 fun H hH => ?_
 have hX : H e0 X = some (pbx s i 0 0) := hH ((e0, X), pbx s i 0 0) (by simp)
 have hT : HT τ (e0 + 1) H := HT.of (bs := [((e0, X), pbx s i 0 0)]) hH
 refine z16 Tryz.func96 (by kernel_rfl) rfl (by simp) ?_
 dsimp only [Tryz.f96]
 have hn := z4t (X := X) τ s i hi 0 0 (e0 + 1)
 have hf := z5v (X := X) s (I .i64 i) i 3 (e0 + 1) (by decide)
 have hr := zhv s i
 have hcr := z52 zrw (nx (rst s i)) hr.1 hr.2
 by_cases hlt : i < s.size
 · have hx := zac hlt
   have e1 := z4m hlt
   by_cases hc : nx (rst s i) = 92 ∨ spC.contains (nx (rst s i)) = false
   · have hch := zow hX0 hX1 τ s hs zrw i hi (by rw [hx]; omega) hc (e0 + 1)
     have h0 : 0 ≤ nx (rst s i) := by rw [hx]; omega
     rcases hp : z8l spC (rst s i) with ⟨c, r⟩ | ⟨a, e⟩ | _
     · rw [hp] at hch
       rcases hc with hc | hc
       · repeat' (first | (apply z0e; (first | refine z13 rfl (by decide) ?_ | (apply z09; (refine z14 rfl hX rfl rfl rfl rfl (by decide) ?_)) | (apply z08; (refine z00 (z03 rfl rfl) rfl rfl (by decide) ?_)) | (apply z0l; (first | refine z1l hch rfl hX (bkT (by repeat (first | exact hT | refine HT.upd ?_ hX0 hX1))) (by decide) ?_ | refine z34 hf rfl hX (by decide) ?_ | refine z15 hn rfl (z0s (m := (e0 + 1, X)) hX (bkT (by repeat (first | exact hT | refine HT.upd ?_ hX0 hX1)))) (by decide) ?_ | refine z1z hcr rfl (by decide) ?_)))) | (apply z0f; (first | refine z0z ?_ | apply z0c | refine z2e rfl rfl (by decide) ?_ | refine z5u rfl rfl (by decide) ?_ | refine z0u rfl rfl (fun _ => ?_) (fun _ => ?_) | refine z3h rfl rfl (fun _ => ?_) (fun _ => ?_))) | (apply z0d; (first | apply z0h | apply z01 | refine z0o rfl ?_ | refine z0g rfl ?_ | apply z06 | refine z6t rfl (fun _ => ?_) (fun _ => ?_))))
         all_goals try (exfalso; omega)
         all_goals ((repeat rw [z0x]); first | exact z07 Tryz.func96 _ (z0m rfl rfl rfl rfl rfl rfl rfl) ⟨rfl, rfl⟩ | exact z07 Tryz.func96 _ (z1h rfl rfl rfl) ⟨rfl, rfl⟩ | exact z07 Tryz.func96 _ (z0a rfl rfl) ⟨rfl, rfl⟩ | exact z07 Tryz.func96 _ (z11 rfl rfl rfl rfl) ⟨rfl, rfl⟩)
       · rw [hc] at hcr
         repeat' (first | (apply z0e; (first | refine z13 rfl (by decide) ?_ | (apply z09; (refine z14 rfl hX rfl rfl rfl rfl (by decide) ?_)) | (apply z08; (refine z00 (z03 rfl rfl) rfl rfl (by decide) ?_)) | (apply z0l; (first | refine z1l hch rfl hX (bkT (by repeat (first | exact hT | refine HT.upd ?_ hX0 hX1))) (by decide) ?_ | refine z34 hf rfl hX (by decide) ?_ | refine z15 hn rfl (z0s (m := (e0 + 1, X)) hX (bkT (by repeat (first | exact hT | refine HT.upd ?_ hX0 hX1)))) (by decide) ?_ | refine z1z hcr rfl (by decide) ?_)))) | (apply z0f; (first | refine z0z ?_ | apply z0c | refine z2e rfl rfl (by decide) ?_ | refine z5u rfl rfl (by decide) ?_ | refine z0u rfl rfl (fun _ => ?_) (fun _ => ?_) | refine z3h rfl rfl (fun _ => ?_) (fun _ => ?_))) | (apply z0d; (first | apply z0h | apply z01 | refine z0o rfl ?_ | refine z0g rfl ?_ | apply z06)))
         all_goals try (exfalso; omega)
         all_goals ((repeat rw [z0x]); first | exact z07 Tryz.func96 _ (z0m rfl rfl rfl rfl rfl rfl rfl) ⟨rfl, rfl⟩ | exact z07 Tryz.func96 _ (z1h rfl rfl rfl) ⟨rfl, rfl⟩ | exact z07 Tryz.func96 _ (z0a rfl rfl) ⟨rfl, rfl⟩ | exact z07 Tryz.func96 _ (z11 rfl rfl rfl rfl) ⟨rfl, rfl⟩)
     · rw [hp] at hch
       rcases hc with hc | hc
       · repeat' (first | (apply z0e; (first | refine z13 rfl (by decide) ?_ | (apply z09; (refine z14 rfl hX rfl rfl rfl rfl (by decide) ?_)) | (apply z08; (refine z00 (z03 rfl rfl) rfl rfl (by decide) ?_)) | (apply z0l; (first | refine z1l hch rfl hX (bkT (by repeat (first | exact hT | refine HT.upd ?_ hX0 hX1))) (by decide) ?_ | refine z34 hf rfl hX (by decide) ?_ | refine z15 hn rfl (z0s (m := (e0 + 1, X)) hX (bkT (by repeat (first | exact hT | refine HT.upd ?_ hX0 hX1)))) (by decide) ?_ | refine z1z hcr rfl (by decide) ?_)))) | (apply z0f; (first | refine z0z ?_ | apply z0c | refine z2e rfl rfl (by decide) ?_ | refine z5u rfl rfl (by decide) ?_ | refine z0u rfl rfl (fun _ => ?_) (fun _ => ?_) | refine z3h rfl rfl (fun _ => ?_) (fun _ => ?_))) | (apply z0d; (first | apply z0h | apply z01 | refine z0o rfl ?_ | refine z0g rfl ?_ | apply z06 | refine z6t rfl (fun _ => ?_) (fun _ => ?_))))
         all_goals try (exfalso; omega)
         all_goals ((repeat rw [z0x]); first | exact z07 Tryz.func96 _ (z0m rfl rfl rfl rfl rfl rfl rfl) ⟨rfl, rfl⟩ | exact z07 Tryz.func96 _ (z1h rfl rfl rfl) ⟨rfl, rfl⟩ | exact z07 Tryz.func96 _ (z0a rfl rfl) ⟨rfl, rfl⟩ | exact z07 Tryz.func96 _ (z11 rfl rfl rfl rfl) ⟨rfl, rfl⟩)
       · rw [hc] at hcr
         repeat' (first | (apply z0e; (first | refine z13 rfl (by decide) ?_ | (apply z09; (refine z14 rfl hX rfl rfl rfl rfl (by decide) ?_)) | (apply z08; (refine z00 (z03 rfl rfl) rfl rfl (by decide) ?_)) | (apply z0l; (first | refine z1l hch rfl hX (bkT (by repeat (first | exact hT | refine HT.upd ?_ hX0 hX1))) (by decide) ?_ | refine z34 hf rfl hX (by decide) ?_ | refine z15 hn rfl (z0s (m := (e0 + 1, X)) hX (bkT (by repeat (first | exact hT | refine HT.upd ?_ hX0 hX1)))) (by decide) ?_ | refine z1z hcr rfl (by decide) ?_)))) | (apply z0f; (first | refine z0z ?_ | apply z0c | refine z2e rfl rfl (by decide) ?_ | refine z5u rfl rfl (by decide) ?_ | refine z0u rfl rfl (fun _ => ?_) (fun _ => ?_) | refine z3h rfl rfl (fun _ => ?_) (fun _ => ?_))) | (apply z0d; (first | apply z0h | apply z01 | refine z0o rfl ?_ | refine z0g rfl ?_ | apply z06)))
         all_goals try (exfalso; omega)
         all_goals ((repeat rw [z0x]); first | exact z07 Tryz.func96 _ (z0m rfl rfl rfl rfl rfl rfl rfl) ⟨rfl, rfl⟩ | exact z07 Tryz.func96 _ (z1h rfl rfl rfl) ⟨rfl, rfl⟩ | exact z07 Tryz.func96 _ (z0a rfl rfl) ⟨rfl, rfl⟩ | exact z07 Tryz.func96 _ (z11 rfl rfl rfl rfl) ⟨rfl, rfl⟩)
     · exfalso
       have := hp
       rw [e1, z4e] at this
       split at this
       · split at this
         · simp at this
         · split at this <;> simp at this
       · split at this <;> simp at this
   · have h1 : nx (rst s i) ≠ 92 := fun h => hc (.inl h)
     have h2 : spC.contains (nx (rst s i)) = true := by
      cases h : spC.contains (nx (rst s i)) with
      | true => rfl
      | false => exact absurd (.inr h) hc
     rw [h2] at hcr
     have h0 : 0 ≤ nx (rst s i) := by rw [hx]; omega
     have hp : z8l spC (rst s i) = .err (rst s i) 3 := by
      rw [e1, z4e]
      simp only
      rw [← hx, if_neg h1, if_pos h2]
     rw [hp, z5o hi]
     repeat' (first | (apply z0e; (first | refine z13 rfl (by decide) ?_ | (apply z09; (refine z14 rfl hX rfl rfl rfl rfl (by decide) ?_)) | (apply z08; (refine z00 (z03 rfl rfl) rfl rfl (by decide) ?_)) | (apply z0l; (first | refine z34 hf rfl hX (by decide) ?_ | refine z15 hn rfl (z0s (m := (e0 + 1, X)) hX (bkT (by repeat (first | exact hT | refine HT.upd ?_ hX0 hX1)))) (by decide) ?_ | refine z1z hcr rfl (by decide) ?_)))) | (apply z0f; (first | refine z0z ?_ | apply z0c | refine z2e rfl rfl (by decide) ?_ | refine z5u rfl rfl (by decide) ?_ | refine z0u rfl rfl (fun _ => ?_) (fun _ => ?_) | refine z3h rfl rfl (fun _ => ?_) (fun _ => ?_))) | (apply z0d; (first | apply z0h | apply z01 | refine z0o rfl ?_ | refine z0g rfl ?_ | apply z06)))
     all_goals try (exfalso; omega)
     all_goals ((repeat rw [z0x]); refine z5g wkP ?_; first | exact z07 Tryz.func96 _ (z0m rfl rfl rfl rfl rfl rfl rfl) ⟨rfl, rfl⟩ | exact z07 Tryz.func96 _ (z1h rfl rfl rfl) ⟨rfl, rfl⟩ | exact z07 Tryz.func96 _ (z0a rfl rfl) ⟨rfl, rfl⟩ | exact z07 Tryz.func96 _ (z11 rfl rfl rfl rfl) ⟨rfl, rfl⟩)
 · have e1 := z3m (s := s) (i := i) (by omega)
   have hp : z8l spC (rst s i) = .err (rst s i) 3 := by rw [e1]; rfl
   have hx : nx (rst s i) = -1 := by rw [e1]; rfl
   rw [hp, z5o hi]
   rw [hx] at hn
   repeat' (first | (apply z0e; (first | refine z13 rfl (by decide) ?_ | (apply z09; (refine z14 rfl hX rfl rfl rfl rfl (by decide) ?_)) | (apply z08; (refine z00 (z03 rfl rfl) rfl rfl (by decide) ?_)) | (apply z0l; (first | refine z34 hf rfl hX (by decide) ?_ | refine z15 hn rfl (z0s (m := (e0 + 1, X)) hX (bkT (by repeat (first | exact hT | refine HT.upd ?_ hX0 hX1)))) (by decide) ?_)))) | (apply z0f; (first | refine z0z ?_ | apply z0c | refine z2e rfl rfl (by decide) ?_ | refine z5u rfl rfl (by decide) ?_)) | (apply z0d; (first | apply z0h | apply z01 | refine z0o rfl ?_)))
   all_goals try (exfalso; omega)
   all_goals ((repeat rw [z0x]); refine z5g wkP ?_; first | exact z07 Tryz.func96 _ (z0m rfl rfl rfl rfl rfl rfl rfl) ⟨rfl, rfl⟩ | exact z07 Tryz.func96 _ (z1h rfl rfl rfl) ⟨rfl, rfl⟩ | exact z07 Tryz.func96 _ (z0a rfl rfl) ⟨rfl, rfl⟩ | exact z07 Tryz.func96 _ (z11 rfl rfl rfl rfl) ⟨rfl, rfl⟩)
theorem zh1 (k : Int) (hk0 : 0 ≤ k) (hk : k ≤ 16) (i : Nat) (hi : i ≤ s.size) (e0 : Nat) :
  z36 Tryz.prog 86 [.ptr (e0, X) 0, I .i64 k] (((e0, X), pbx s i 0 0) :: zd9 τ (e0 + 1)) [((e0, X), zja s (zbf k (rst s i)))] (z8m eN (eN 0) (zbf k (rst s i))) := by
 refine z42 fun H hH => ?_
 have hX : H e0 X = some (pbx s i 0 0) := hH ((e0, X), pbx s i 0 0) (by simp)
 have hT : HT τ (e0 + 1) H := HT.of (bs := [((e0, X), pbx s i 0 0)]) hH
 refine z16 Tryz.func86 (by kernel_rfl) rfl (by simp) ?_
 dsimp only [Tryz.f86]
 have hn := z4t (X := X) τ s i hi 0 0 (e0 + 1)
 have hf := z5v (X := X) s (I .i64 i) i 3 (e0 + 1) (by decide)
 have hd := zlh (nx (rst s i))
 cases hg : dgt (nx (rst s i)) with
 | false =>
  rw [hg] at hd
  have hp : zbf k (rst s i) = .err (rst s i) 3 := by
   by_cases hlt : i < s.size
   · have hx := zac hlt
     have e1 := z4m hlt
     rw [e1, zax, ← hx, if_pos hg]
   · rw [z3m (by omega)]; rfl
  rw [hp, z5o hi]
  repeat' (first | (apply z0e; (first | refine z13 rfl (by decide) ?_ | (apply z09; (refine z14 rfl hX rfl rfl rfl rfl (by decide) ?_)) | (apply z08; (refine z00 (z03 rfl rfl) rfl rfl (by decide) ?_)) | (apply z0l; (first | refine z34 hf rfl hX (by decide) ?_ | refine z15 hn rfl (z0s (m := (e0 + 1, X)) hX (bkT (by repeat (first | exact hT | refine HT.upd ?_ hX0 hX1)))) (by decide) ?_ | refine z1z hd rfl (by decide) ?_)))) | (apply z0f; (first | refine z0z ?_ | apply z0c)) | (apply z0d; (first | apply z0h | apply z01 | refine z0o rfl ?_)))
  all_goals try (exfalso; omega)
  all_goals ((repeat rw [z0x]); refine z5g wkP ?_; first | exact z07 Tryz.func86 _ (z0m rfl rfl rfl rfl rfl rfl rfl) ⟨rfl, rfl⟩ | exact z07 Tryz.func86 _ (z1h rfl rfl rfl) ⟨rfl, rfl⟩ | exact z07 Tryz.func86 _ (z0a rfl rfl) ⟨rfl, rfl⟩ | exact z07 Tryz.func86 _ (z11 rfl rfl rfl rfl) ⟨rfl, rfl⟩)
 | true =>
  rw [hg] at hd
  obtain ⟨hc0, hc1⟩ := zsf hg
  obtain ⟨hlt, ht, he⟩ := z2u hi rfl (by omega) (by omega)
  generalize hc : nx (rst s i) = c at *
  have hn1 := z4t (X := X) τ s (i + 1) hlt 0 0 (e0 + 1)
  have hd1 := zlh (nx (rst s (i + 1)))
  have hf1 := z5v (X := X) s (I .i64 ((i + 1 : Nat) : Int)) ((i + 1 : Nat) : Int) 3 (e0 + 1) (by decide)
  have hf2 := z5v (X := X) s (I .i64 ((i + 1 : Nat) : Int)) i 8 (e0 + 1) (by decide)
  have hf3 := z5v (X := X) s (I .i64 ((i + 2 : Nat) : Int)) i 8 (e0 + 1) (by decide)
  have hnil := zm5 (s := s) (i := i + 1) hlt
  have hbe := z5o (α := Int) (s := s) (e := 8) hi
  rw [he] at hbe
  rw [he, zax, if_neg (by rw [hg]; decide)]
  by_cases hA : 0 < c - 48 ∧ i + 1 = s.size
  · rw [if_pos ⟨hA.1, hnil.2 hA.2⟩, ← hnil.2 hA.2, z5o hlt]
    repeat' (first | (apply z0e; (first | refine z13 rfl (by decide) ?_ | (apply z09; (first | refine z14 rfl (z05 _ (e0, X) _) rfl rfl rfl rfl (by decide) ?_ | refine z14 rfl hX rfl rfl rfl rfl (by decide) ?_)) | (apply z08; (refine z00 (z03 rfl rfl) rfl rfl (by decide) ?_)) | (apply z19; (first | refine z00 (z4a (za5 (by omega) (by omega))) rfl rfl (by decide) ?_ | refine z00 (z1e (z1s (by omega) (by omega))) rfl rfl (by decide) ?_)) | (apply z0l; (first | refine z34 hf1 rfl (z05 _ (e0, X) _) (by decide) ?_ | refine z15 hn1 rfl (z0s (m := (e0 + 1, X)) (z05 _ (e0, X) _) (bkT (by repeat (first | exact hT | refine HT.upd ?_ hX0 hX1)))) (by decide) ?_ | refine z15 hn rfl (z0s (m := (e0 + 1, X)) hX (bkT (by repeat (first | exact hT | refine HT.upd ?_ hX0 hX1)))) (by decide) ?_ | refine z1z hd rfl (by decide) ?_)) | (apply z0i; (refine z18 (raw' := pbx s ((i + 1 : Nat) : Int) 0 0) rfl hX rfl rfl rfl rfl rfl rfl ?_)) | (apply z4p; (refine z00 (z6h rfl rfl (z1s (by omega) (by omega))) rfl rfl (by decide) ?_)))) | (apply z0f; (first | refine z0z ?_ | apply z0c | refine z2e rfl rfl (by decide) ?_ | refine z0u rfl rfl (fun _ => ?_) (fun _ => ?_))) | (apply z0d; (first | apply z0h | apply z01 | refine z0o rfl ?_ | refine z0g rfl ?_ | apply z06 | apply z3w | refine z1o rfl (fun _ => ?_) (fun _ => ?_))) | (apply z3x; (first | (apply z1v; refine z2o mix (by kernel_rfl) ?_) | refine z3u rfl rfl (by decide) ?_ | refine z47 rfl (by first | exact rfl | exact ⟨_, rfl, rfl, rfl⟩) (by decide) ?_ | (apply z1g; (refine z6s (by first | exact rfl | exact ⟨_, rfl, rfl, rfl⟩) rfl (z05 _ (e0, X) _) rfl rfl rfl rfl (by decide) ?_)) | (apply z1b; (refine z0n (z03 rfl rfl) (by first | exact rfl | exact ⟨_, rfl, rfl, rfl⟩) rfl rfl (by decide) ?_)) | (apply z4h; (refine z0n (z48 rfl) (by first | exact rfl | exact ⟨_, rfl, rfl, rfl⟩) rfl rfl (by decide) ?_)) | (refine z2n rfl rfl (fun hg => ?_) (fun hg => ?_) <;> simp only [hg] <;> (try simp only [decide_eq_true_eq, decide_eq_false_iff_not, Bool.not_eq_true', Bool.not_eq_false'] at hg)))))
    all_goals try (exfalso; omega)
    all_goals ((repeat rw [z0x]); refine z5g wkP ?_; first | exact z07 Tryz.func86 _ (z0m rfl rfl rfl rfl rfl rfl rfl) ⟨rfl, rfl⟩ | exact z07 Tryz.func86 _ (z1h rfl rfl rfl) ⟨rfl, rfl⟩ | exact z07 Tryz.func86 _ (z0a rfl rfl) ⟨rfl, rfl⟩ | exact z07 Tryz.func86 _ (z11 rfl rfl rfl rfl) ⟨rfl, rfl⟩)
  · rw [if_neg (fun h => hA ⟨h.1, hnil.1 h.2⟩)]
    by_cases hB : 0 < c - 48 ∧ dgt (nx (rst s (i + 1))) = true
    · rw [if_pos hB]
      rw [hB.2] at hd1
      obtain ⟨hc2, hc3⟩ := zsf hB.2
      obtain ⟨hlt1, ht1, he1⟩ := z2u (i := i + 1) hlt rfl (by omega) (by omega)
      rw [ht1]
      generalize hc' : nx (rst s (i + 1)) = c' at *
      have hB1 := hB.1
      have hpos : i + 1 < s.size := hlt1
      by_cases hC : 16 < 10 * (c - 48) + (c' - 48) ∨ 10 * (c - 48) + (c' - 48) < k
      · rw [if_pos hC, hbe]
        repeat' (first | (apply z0e; (first | refine z13 rfl (by decide) ?_ | (apply z09; (first | refine z14 rfl (z05 _ (e0, X) _) rfl rfl rfl rfl (by decide) ?_ | refine z14 rfl hX rfl rfl rfl rfl (by decide) ?_)) | (apply z08; (refine z00 (z03 rfl rfl) rfl rfl (by decide) ?_)) | (apply z19; (first | refine z00 (z4a (za5 (by omega) (by omega))) rfl rfl (by decide) ?_ | refine z00 (z1e (z1s (by omega) (by omega))) rfl rfl (by decide) ?_ | refine z00 (zah (z1s (by omega) (by omega))) rfl rfl (by decide) ?_)) | (apply z0l; (first | refine z34 hf3 rfl (z05 _ (e0, X) _) (by decide) ?_ | refine z15 hn1 rfl (z0s (m := (e0 + 1, X)) (z05 _ (e0, X) _) (bkT (by repeat (first | exact hT | refine HT.upd ?_ hX0 hX1)))) (by decide) ?_ | refine z15 hn rfl (z0s (m := (e0 + 1, X)) hX (bkT (by repeat (first | exact hT | refine HT.upd ?_ hX0 hX1)))) (by decide) ?_ | refine z1z hd rfl (by decide) ?_ | refine z1z hd1 rfl (by decide) ?_)) | (apply z0i; (first | refine z18 (raw' := pbx s ((i + 2 : Nat) : Int) 0 0) rfl (z05 _ (e0, X) _) rfl rfl rfl rfl rfl rfl ?_ | refine z18 (raw' := pbx s ((i + 1 : Nat) : Int) 0 0) rfl hX rfl rfl rfl rfl rfl rfl ?_)) | (apply z4p; (refine z00 (z6h rfl rfl (z1s (by omega) (by omega))) rfl rfl (by decide) ?_)))) | (apply z0f; (first | refine z0z ?_ | apply z0c | refine z2e rfl rfl (by decide) ?_ | refine z0u rfl rfl (fun _ => ?_) (fun _ => ?_))) | (apply z0d; (first | apply z0h | apply z01 | refine z0o rfl ?_ | refine z0g rfl ?_ | apply z06 | apply z3w | refine z1o rfl (fun _ => ?_) (fun _ => ?_))) | (apply z3x; (first | (apply z1v; refine z2o mix (by kernel_rfl) ?_) | refine z3u rfl rfl (by decide) ?_ | refine z47 rfl (by first | exact rfl | exact ⟨_, rfl, rfl, rfl⟩) (by decide) ?_ | (apply z1g; (refine z6s (by first | exact rfl | exact ⟨_, rfl, rfl, rfl⟩) rfl (z05 _ (e0, X) _) rfl rfl rfl rfl (by decide) ?_)) | (apply z1b; (refine z0n (z03 rfl rfl) (by first | exact rfl | exact ⟨_, rfl, rfl, rfl⟩) rfl rfl (by decide) ?_)) | (apply z4h; (refine z0n (z48 rfl) (by first | exact rfl | exact ⟨_, rfl, rfl, rfl⟩) rfl rfl (by decide) ?_)) | (refine z2n rfl rfl (fun hg => ?_) (fun hg => ?_) <;> simp only [hg] <;> (try simp only [decide_eq_true_eq, decide_eq_false_iff_not, Bool.not_eq_true', Bool.not_eq_false'] at hg)))))
        all_goals try (exfalso; omega)
        all_goals ((repeat rw [z0x]); refine z5g wkP ?_; first | exact z07 Tryz.func86 _ (z0m rfl rfl rfl rfl rfl rfl rfl) ⟨rfl, rfl⟩ | exact z07 Tryz.func86 _ (z1h rfl rfl rfl) ⟨rfl, rfl⟩ | exact z07 Tryz.func86 _ (z0a rfl rfl) ⟨rfl, rfl⟩ | exact z07 Tryz.func86 _ (z11 rfl rfl rfl rfl) ⟨rfl, rfl⟩)
      · rw [if_neg hC, z4k (by omega)]
        repeat' (first | (apply z0e; (first | refine z13 rfl (by decide) ?_ | (apply z09; (first | refine z14 rfl (z05 _ (e0, X) _) rfl rfl rfl rfl (by decide) ?_ | refine z14 rfl hX rfl rfl rfl rfl (by decide) ?_)) | (apply z08; (refine z00 (z03 rfl rfl) rfl rfl (by decide) ?_)) | (apply z19; (first | refine z00 (z4a (za5 (by omega) (by omega))) rfl rfl (by decide) ?_ | refine z00 (z1e (z1s (by omega) (by omega))) rfl rfl (by decide) ?_ | refine z00 (zah (z1s (by omega) (by omega))) rfl rfl (by decide) ?_)) | (apply z0l; (first | refine z34 hf3 rfl (z05 _ (e0, X) _) (by decide) ?_ | refine z15 hn1 rfl (z0s (m := (e0 + 1, X)) (z05 _ (e0, X) _) (bkT (by repeat (first | exact hT | refine HT.upd ?_ hX0 hX1)))) (by decide) ?_ | refine z15 hn rfl (z0s (m := (e0 + 1, X)) hX (bkT (by repeat (first | exact hT | refine HT.upd ?_ hX0 hX1)))) (by decide) ?_ | refine z1z hd rfl (by decide) ?_ | refine z1z hd1 rfl (by decide) ?_)) | (apply z0i; (first | refine z18 (raw' := pbx s ((i + 2 : Nat) : Int) 0 0) rfl (z05 _ (e0, X) _) rfl rfl rfl rfl rfl rfl ?_ | refine z18 (raw' := pbx s ((i + 1 : Nat) : Int) 0 0) rfl hX rfl rfl rfl rfl rfl rfl ?_)) | (apply z4p; (refine z00 (z6h rfl rfl (z1s (by omega) (by omega))) rfl rfl (by decide) ?_)))) | (apply z0f; (first | refine z0z ?_ | apply z0c | refine z2e rfl rfl (by decide) ?_ | refine z0u rfl rfl (fun _ => ?_) (fun _ => ?_))) | (apply z0d; (first | apply z0h | apply z01 | refine z0o rfl ?_ | refine z0g rfl ?_ | apply z06 | apply z3w | refine z1o rfl (fun _ => ?_) (fun _ => ?_))) | (apply z3x; (first | (apply z1v; refine z2o mix (by kernel_rfl) ?_) | refine z3u rfl rfl (by decide) ?_ | refine z47 rfl (by first | exact rfl | exact ⟨_, rfl, rfl, rfl⟩) (by decide) ?_ | (apply z1g; (refine z6s (by first | exact rfl | exact ⟨_, rfl, rfl, rfl⟩) rfl (z05 _ (e0, X) _) rfl rfl rfl rfl (by decide) ?_)) | (apply z1b; (refine z0n (z03 rfl rfl) (by first | exact rfl | exact ⟨_, rfl, rfl, rfl⟩) rfl rfl (by decide) ?_)) | (apply z4h; (refine z0n (z48 rfl) (by first | exact rfl | exact ⟨_, rfl, rfl, rfl⟩) rfl rfl (by decide) ?_)) | (refine z2n rfl rfl (fun hg => ?_) (fun hg => ?_) <;> simp only [hg] <;> (try simp only [decide_eq_true_eq, decide_eq_false_iff_not, Bool.not_eq_true', Bool.not_eq_false'] at hg)))))
        all_goals try (exfalso; omega)
        all_goals ((repeat rw [z0x]); first | exact z07 Tryz.func86 _ (z0m rfl rfl rfl rfl rfl rfl rfl) ⟨rfl, rfl⟩ | exact z07 Tryz.func86 _ (z1h rfl rfl rfl) ⟨rfl, rfl⟩ | exact z07 Tryz.func86 _ (z0a rfl rfl) ⟨rfl, rfl⟩ | exact z07 Tryz.func86 _ (z11 rfl rfl rfl rfl) ⟨rfl, rfl⟩)
    · rw [if_neg hB]
      have hdf : 0 < c - 48 → dgt (nx (rst s (i + 1))) = false := fun h => by
       cases h2 : dgt (nx (rst s (i + 1))) with
       | false => rfl
       | true => exact absurd ⟨h, h2⟩ hB
      have hlx : 0 < c - 48 → i + 1 < s.size := fun h => by
       false_or_by_contra
       exact hA ⟨h, by omega⟩
      by_cases hC : 16 < c - 48 ∨ c - 48 < k
      · rw [if_pos hC, hbe]
        by_cases hz : 0 < c - 48
        · have hdf := hdf hz
          have hlx := hlx hz
          rw [hdf] at hd1
          repeat' (first | (apply z0e; (first | refine z13 rfl (by decide) ?_ | (apply z09; (first | refine z14 rfl (z05 _ (e0, X) _) rfl rfl rfl rfl (by decide) ?_ | refine z14 rfl hX rfl rfl rfl rfl (by decide) ?_)) | (apply z08; (refine z00 (z03 rfl rfl) rfl rfl (by decide) ?_)) | (apply z19; (first | refine z00 (z4a (za5 (by omega) (by omega))) rfl rfl (by decide) ?_ | refine z00 (z1e (z1s (by omega) (by omega))) rfl rfl (by decide) ?_)) | (apply z0l; (first | refine z34 hf2 rfl (z05 _ (e0, X) _) (by decide) ?_ | refine z15 hn1 rfl (z0s (m := (e0 + 1, X)) (z05 _ (e0, X) _) (bkT (by repeat (first | exact hT | refine HT.upd ?_ hX0 hX1)))) (by decide) ?_ | refine z15 hn rfl (z0s (m := (e0 + 1, X)) hX (bkT (by repeat (first | exact hT | refine HT.upd ?_ hX0 hX1)))) (by decide) ?_ | refine z1z hd rfl (by decide) ?_ | refine z1z hd1 rfl (by decide) ?_)) | (apply z0i; (refine z18 (raw' := pbx s ((i + 1 : Nat) : Int) 0 0) rfl hX rfl rfl rfl rfl rfl rfl ?_)) | (apply z4p; (refine z00 (z6h rfl rfl (z1s (by omega) (by omega))) rfl rfl (by decide) ?_)))) | (apply z0f; (first | refine z0z ?_ | apply z0c | refine z2e rfl rfl (by decide) ?_ | refine z0u rfl rfl (fun _ => ?_) (fun _ => ?_))) | (apply z0d; (first | apply z0h | apply z01 | refine z0o rfl ?_ | refine z0g rfl ?_ | apply z06 | apply z3w | refine z1o rfl (fun _ => ?_) (fun _ => ?_))) | (apply z3x; (first | (apply z1v; refine z2o mix (by kernel_rfl) ?_) | refine z3u rfl rfl (by decide) ?_ | refine z47 rfl (by first | exact rfl | exact ⟨_, rfl, rfl, rfl⟩) (by decide) ?_ | (apply z1g; (refine z6s (by first | exact rfl | exact ⟨_, rfl, rfl, rfl⟩) rfl (z05 _ (e0, X) _) rfl rfl rfl rfl (by decide) ?_)) | (apply z1b; (refine z0n (z03 rfl rfl) (by first | exact rfl | exact ⟨_, rfl, rfl, rfl⟩) rfl rfl (by decide) ?_)) | (apply z4h; (refine z0n (z48 rfl) (by first | exact rfl | exact ⟨_, rfl, rfl, rfl⟩) rfl rfl (by decide) ?_)) | (refine z2n rfl rfl (fun hg => ?_) (fun hg => ?_) <;> simp only [hg] <;> (try simp only [decide_eq_true_eq, decide_eq_false_iff_not, Bool.not_eq_true', Bool.not_eq_false'] at hg)))))
          all_goals try (exfalso; omega)
          all_goals ((repeat rw [z0x]); refine z5g wkP ?_; first | exact z07 Tryz.func86 _ (z0m rfl rfl rfl rfl rfl rfl rfl) ⟨rfl, rfl⟩ | exact z07 Tryz.func86 _ (z1h rfl rfl rfl) ⟨rfl, rfl⟩ | exact z07 Tryz.func86 _ (z0a rfl rfl) ⟨rfl, rfl⟩ | exact z07 Tryz.func86 _ (z11 rfl rfl rfl rfl) ⟨rfl, rfl⟩)
        · repeat' (first | (apply z0e; (first | refine z13 rfl (by decide) ?_ | (apply z09; (first | refine z14 rfl (z05 _ (e0, X) _) rfl rfl rfl rfl (by decide) ?_ | refine z14 rfl hX rfl rfl rfl rfl (by decide) ?_)) | (apply z08; (refine z00 (z03 rfl rfl) rfl rfl (by decide) ?_)) | (apply z19; (first | refine z00 (z4a (za5 (by omega) (by omega))) rfl rfl (by decide) ?_ | refine z00 (z1e (z1s (by omega) (by omega))) rfl rfl (by decide) ?_ | refine z00 (zah (z1s (by omega) (by omega))) rfl rfl (by decide) ?_)) | (apply z0l; (first | refine z34 hf2 rfl (z05 _ (e0, X) _) (by decide) ?_ | refine z15 hn1 rfl (z0s (m := (e0 + 1, X)) (z05 _ (e0, X) _) (bkT (by repeat (first | exact hT | refine HT.upd ?_ hX0 hX1)))) (by decide) ?_ | refine z15 hn rfl (z0s (m := (e0 + 1, X)) hX (bkT (by repeat (first | exact hT | refine HT.upd ?_ hX0 hX1)))) (by decide) ?_ | refine z1z hd rfl (by decide) ?_ | refine z1z hd1 rfl (by decide) ?_)) | (apply z0i; (refine z18 (raw' := pbx s ((i + 1 : Nat) : Int) 0 0) rfl hX rfl rfl rfl rfl rfl rfl ?_)) | (apply z4p; (refine z00 (z6h rfl rfl (z1s (by omega) (by omega))) rfl rfl (by decide) ?_)))) | (apply z0f; (first | refine z0z ?_ | apply z0c | refine z2e rfl rfl (by decide) ?_ | refine z0u rfl rfl (fun _ => ?_) (fun _ => ?_))) | (apply z0d; (first | apply z0h | apply z01 | refine z0o rfl ?_ | refine z0g rfl ?_ | apply z06 | apply z3w | refine z1o rfl (fun _ => ?_) (fun _ => ?_) | refine z6t rfl (fun _ => ?_) (fun _ => ?_))) | (apply z3x; (first | (apply z1v; refine z2o mix (by kernel_rfl) ?_) | refine z3u rfl rfl (by decide) ?_ | refine z47 rfl (by first | exact rfl | exact ⟨_, rfl, rfl, rfl⟩) (by decide) ?_ | (apply z1g; (refine z6s (by first | exact rfl | exact ⟨_, rfl, rfl, rfl⟩) rfl (z05 _ (e0, X) _) rfl rfl rfl rfl (by decide) ?_)) | (apply z1b; (refine z0n (z03 rfl rfl) (by first | exact rfl | exact ⟨_, rfl, rfl, rfl⟩) rfl rfl (by decide) ?_)) | (apply z4h; (refine z0n (z48 rfl) (by first | exact rfl | exact ⟨_, rfl, rfl, rfl⟩) rfl rfl (by decide) ?_)) | (refine z2n rfl rfl (fun hg => ?_) (fun hg => ?_) <;> simp only [hg] <;> (try simp only [decide_eq_true_eq, decide_eq_false_iff_not, Bool.not_eq_true', Bool.not_eq_false'] at hg)))))
          all_goals try (exfalso; omega)
          all_goals ((repeat rw [z0x]); refine z5g wkP ?_; first | exact z07 Tryz.func86 _ (z0m rfl rfl rfl rfl rfl rfl rfl) ⟨rfl, rfl⟩ | exact z07 Tryz.func86 _ (z1h rfl rfl rfl) ⟨rfl, rfl⟩ | exact z07 Tryz.func86 _ (z0a rfl rfl) ⟨rfl, rfl⟩ | exact z07 Tryz.func86 _ (z11 rfl rfl rfl rfl) ⟨rfl, rfl⟩)
      · rw [if_neg hC, z4k (by omega)]
        by_cases hz : 0 < c - 48
        · have hdf := hdf hz
          have hlx := hlx hz
          rw [hdf] at hd1
          repeat' (first | (apply z0e; (first | refine z13 rfl (by decide) ?_ | (apply z09; (first | refine z14 rfl (z05 _ (e0, X) _) rfl rfl rfl rfl (by decide) ?_ | refine z14 rfl hX rfl rfl rfl rfl (by decide) ?_)) | (apply z08; (refine z00 (z03 rfl rfl) rfl rfl (by decide) ?_)) | (apply z19; (first | refine z00 (z4a (za5 (by omega) (by omega))) rfl rfl (by decide) ?_ | refine z00 (z1e (z1s (by omega) (by omega))) rfl rfl (by decide) ?_)) | (apply z0l; (first | refine z34 hf2 rfl (z05 _ (e0, X) _) (by decide) ?_ | refine z15 hn1 rfl (z0s (m := (e0 + 1, X)) (z05 _ (e0, X) _) (bkT (by repeat (first | exact hT | refine HT.upd ?_ hX0 hX1)))) (by decide) ?_ | refine z15 hn rfl (z0s (m := (e0 + 1, X)) hX (bkT (by repeat (first | exact hT | refine HT.upd ?_ hX0 hX1)))) (by decide) ?_ | refine z1z hd rfl (by decide) ?_ | refine z1z hd1 rfl (by decide) ?_)) | (apply z0i; (refine z18 (raw' := pbx s ((i + 1 : Nat) : Int) 0 0) rfl hX rfl rfl rfl rfl rfl rfl ?_)) | (apply z4p; (refine z00 (z6h rfl rfl (z1s (by omega) (by omega))) rfl rfl (by decide) ?_)))) | (apply z0f; (first | refine z0z ?_ | apply z0c | refine z2e rfl rfl (by decide) ?_ | refine z0u rfl rfl (fun _ => ?_) (fun _ => ?_))) | (apply z0d; (first | apply z0h | apply z01 | refine z0o rfl ?_ | refine z0g rfl ?_ | apply z06 | apply z3w | refine z1o rfl (fun _ => ?_) (fun _ => ?_))) | (apply z3x; (first | (apply z1v; refine z2o mix (by kernel_rfl) ?_) | refine z3u rfl rfl (by decide) ?_ | refine z47 rfl (by first | exact rfl | exact ⟨_, rfl, rfl, rfl⟩) (by decide) ?_ | (apply z1g; (refine z6s (by first | exact rfl | exact ⟨_, rfl, rfl, rfl⟩) rfl (z05 _ (e0, X) _) rfl rfl rfl rfl (by decide) ?_)) | (apply z1b; (refine z0n (z03 rfl rfl) (by first | exact rfl | exact ⟨_, rfl, rfl, rfl⟩) rfl rfl (by decide) ?_)) | (apply z4h; (refine z0n (z48 rfl) (by first | exact rfl | exact ⟨_, rfl, rfl, rfl⟩) rfl rfl (by decide) ?_)) | (refine z2n rfl rfl (fun hg => ?_) (fun hg => ?_) <;> simp only [hg] <;> (try simp only [decide_eq_true_eq, decide_eq_false_iff_not, Bool.not_eq_true', Bool.not_eq_false'] at hg)))))
          all_goals try (exfalso; omega)
          all_goals ((repeat rw [z0x]); first | exact z07 Tryz.func86 _ (z0m rfl rfl rfl rfl rfl rfl rfl) ⟨rfl, rfl⟩ | exact z07 Tryz.func86 _ (z1h rfl rfl rfl) ⟨rfl, rfl⟩ | exact z07 Tryz.func86 _ (z0a rfl rfl) ⟨rfl, rfl⟩ | exact z07 Tryz.func86 _ (z11 rfl rfl rfl rfl) ⟨rfl, rfl⟩)
        · repeat' (first | (apply z0e; (first | refine z13 rfl (by decide) ?_ | (apply z09; (first | refine z14 rfl (z05 _ (e0, X) _) rfl rfl rfl rfl (by decide) ?_ | refine z14 rfl hX rfl rfl rfl rfl (by decide) ?_)) | (apply z08; (refine z00 (z03 rfl rfl) rfl rfl (by decide) ?_)) | (apply z19; (first | refine z00 (z4a (za5 (by omega) (by omega))) rfl rfl (by decide) ?_ | refine z00 (z1e (z1s (by omega) (by omega))) rfl rfl (by decide) ?_ | refine z00 (zah (z1s (by omega) (by omega))) rfl rfl (by decide) ?_)) | (apply z0l; (first | refine z34 hf2 rfl (z05 _ (e0, X) _) (by decide) ?_ | refine z15 hn1 rfl (z0s (m := (e0 + 1, X)) (z05 _ (e0, X) _) (bkT (by repeat (first | exact hT | refine HT.upd ?_ hX0 hX1)))) (by decide) ?_ | refine z15 hn rfl (z0s (m := (e0 + 1, X)) hX (bkT (by repeat (first | exact hT | refine HT.upd ?_ hX0 hX1)))) (by decide) ?_ | refine z1z hd rfl (by decide) ?_ | refine z1z hd1 rfl (by decide) ?_)) | (apply z0i; (refine z18 (raw' := pbx s ((i + 1 : Nat) : Int) 0 0) rfl hX rfl rfl rfl rfl rfl rfl ?_)) | (apply z4p; (refine z00 (z6h rfl rfl (z1s (by omega) (by omega))) rfl rfl (by decide) ?_)))) | (apply z0f; (first | refine z0z ?_ | apply z0c | refine z2e rfl rfl (by decide) ?_ | refine z0u rfl rfl (fun _ => ?_) (fun _ => ?_))) | (apply z0d; (first | apply z0h | apply z01 | refine z0o rfl ?_ | refine z0g rfl ?_ | apply z06 | apply z3w | refine z1o rfl (fun _ => ?_) (fun _ => ?_) | refine z6t rfl (fun _ => ?_) (fun _ => ?_))) | (apply z3x; (first | (apply z1v; refine z2o mix (by kernel_rfl) ?_) | refine z3u rfl rfl (by decide) ?_ | refine z47 rfl (by first | exact rfl | exact ⟨_, rfl, rfl, rfl⟩) (by decide) ?_ | (apply z1g; (refine z6s (by first | exact rfl | exact ⟨_, rfl, rfl, rfl⟩) rfl (z05 _ (e0, X) _) rfl rfl rfl rfl (by decide) ?_)) | (apply z1b; (refine z0n (z03 rfl rfl) (by first | exact rfl | exact ⟨_, rfl, rfl, rfl⟩) rfl rfl (by decide) ?_)) | (apply z4h; (refine z0n (z48 rfl) (by first | exact rfl | exact ⟨_, rfl, rfl, rfl⟩) rfl rfl (by decide) ?_)) | (refine z2n rfl rfl (fun hg => ?_) (fun hg => ?_) <;> simp only [hg] <;> (try simp only [decide_eq_true_eq, decide_eq_false_iff_not, Bool.not_eq_true', Bool.not_eq_false'] at hg)))))
          all_goals try (exfalso; omega)
          all_goals ((repeat rw [z0x]); first | exact z07 Tryz.func86 _ (z0m rfl rfl rfl rfl rfl rfl rfl) ⟨rfl, rfl⟩ | exact z07 Tryz.func86 _ (z1h rfl rfl rfl) ⟨rfl, rfl⟩ | exact z07 Tryz.func86 _ (z0a rfl rfl) ⟨rfl, rfl⟩ | exact z07 Tryz.func86 _ (z11 rfl rfl rfl rfl) ⟨rfl, rfl⟩)
end
end Go.Proofs.YtjmbjgecfpggdaaGreatDoor
namespace Go.Proofs.YtjmbjgecfpggdaaGreatDoor
open Go.Ab Go.Rx
set_option maxHeartbeats 20000000
set_option maxRecDepth 100000
attribute [local irreducible] Run Ops Op1 z2r Val Tr z1n z36 NF Rel z5q z5r
theorem zhd {k v : Int} {l r : List U} (h : zbf k l = .ok v r) : k ≤ v ∧ v ≤ 16 := by
 cases l with
 | nil => simp [zbf] at h
 | cons u l =>
  obtain ⟨c, n⟩ := u
  rw [zax] at h
  split at h
  · simp at h
  split at h
  · simp at h
  split at h
  · split at h
    · simp at h
    · simp only [Rd.ok.injEq] at h; omega
  · split at h
    · simp at h
    · simp only [Rd.ok.injEq] at h; omega
theorem zij {k : Int} {l : List U} : zbf k l ≠ .out := by
 intro h
 cases l with
 | nil => simp [zbf] at h
 | cons u l =>
  obtain ⟨c, n⟩ := u
  rw [zax] at h
  split at h
  · simp at h
  split at h
  · simp at h
  split at h
  · split at h <;> simp at h
  · split at h <;> simp at h
def rsB : Rd (Int × Int) → PV
 | .ok a _ => .tup [I .i64 a.1, I .i64 a.2, B true]
 | .err _ _ => .tup [I .i64 0, I .i64 0, B false]
 | .out => .any
theorem zjj {k v : Int} {s : ByteArray} {i : Nat} {r : List U} (hi : i ≤ s.size) (h : zbf k (rst s i) = .ok v r) : ∃ j, i ≤ j ∧ j ≤ s.size ∧ r = rst s j := by
 have h1 := (zda k (rst s i)).1
 rw [h] at h1
 exact z5p s _ i r (Nat.le_refl _) hi h1
section
variable {X : Nat} (hX0 : X ≠ 700) (hX1 : X ≠ 701) (τ : Tab) (s : ByteArray) (hs : s.size ≤ 1000000)
include hX0 hX1 hs
theorem zhi (i : Nat) (hi : i ≤ s.size) (e0 : Nat) :
  z36 Tryz.prog 69 [.ptr (e0, X) 0] (((e0, X), pbx s i 0 0) :: zd9 τ (e0 + 1)) [((e0, X), zja s (z8k (rst s i)))] (rsB (z8k (rst s i))) := by
 refine z42 fun H hH => ?_
 have hX : H e0 X = some (pbx s i 0 0) := hH ((e0, X), pbx s i 0 0) (by simp)
 have hT : HT τ (e0 + 1) H := HT.of (bs := [((e0, X), pbx s i 0 0)]) hH
 refine z16 Tryz.func69 (by kernel_rfl) rfl (by simp) ?_
 dsimp only [Tryz.f69]
 have hm := zh1 hX0 hX1 τ s hs 0 (by decide) (by decide) i hi (e0 + 1)
 rcases hp : zbf 0 (rst s i) with ⟨lo, r⟩ | ⟨a, e⟩ | _
 · obtain ⟨j, hj1, hj, rfl⟩ := zjj hi hp
   have hlo := zhd hp
   rw [hp, z4k hj] at hm
   have hn := z4t (X := X) τ s j hj 0 0 (e0 + 1)
   by_cases hc : nx (rst s j) = 44
   · obtain ⟨hjl, ht, he⟩ := z2u hj hc (by decide) (by decide)
     have hn1 := z4t (X := X) τ s (j + 1) hjl 0 0 (e0 + 1)
     by_cases h2 : nx (rst s (j + 1)) = 125
     · have hq : z8k (rst s i) = .ok (lo, -1) (rst s (j + 1)) := by
        rw [z8k, hp]; simp only
        rw [if_pos hc, ht, if_pos h2, zce, if_pos h2]
       rw [hq, z4k hjl]
       repeat' (first | (apply z0e; (first | refine z13 rfl (by decide) ?_ | (apply z09; (refine z14 rfl (z05 _ (e0, X) _) rfl rfl rfl rfl (by decide) ?_)) | (apply z08; (refine z00 (z03 rfl rfl) rfl rfl (by decide) ?_)) | (apply z19; (refine z00 (z1e (z1s (by omega) (by omega))) rfl rfl (by decide) ?_)) | (apply z0l; (first | refine z1l hm rfl hX (bkT (by repeat (first | exact hT | refine HT.upd ?_ hX0 hX1))) (by decide) ?_ | refine z15 hn1 rfl (z0s (m := (e0 + 1, X)) (z05 _ (e0, X) _) (bkT (by repeat (first | exact hT | refine HT.upd ?_ hX0 hX1)))) (by decide) ?_ | refine z15 hn rfl (z0s (m := (e0 + 1, X)) (z05 _ (e0, X) _) (bkT (by repeat (first | exact hT | refine HT.upd ?_ hX0 hX1)))) (by decide) ?_)) | (apply z0i; (refine z18 (raw' := pbx s ((j + 1 : Nat) : Int) 0 0) rfl (z05 _ (e0, X) _) rfl rfl rfl rfl rfl rfl ?_)))) | (apply z0f; (first | refine z0z ?_ | apply z0c)) | (apply z0d; (first | apply z0h | apply z01 | refine z0g rfl ?_ | apply z06 | refine z1o rfl (fun _ => ?_) (fun _ => ?_) | refine z2w rfl (fun _ => ?_) (fun _ => ?_))))
       all_goals try (exfalso; omega)
       all_goals ((repeat rw [z0x]); first | exact z07 Tryz.func69 _ (z0m rfl rfl rfl rfl rfl rfl rfl) ⟨rfl, rfl⟩ | exact z07 Tryz.func69 _ (z1h rfl rfl rfl) ⟨rfl, rfl⟩ | exact z07 Tryz.func69 _ (z0a rfl rfl) ⟨rfl, rfl⟩ | exact z07 Tryz.func69 _ (z11 rfl rfl rfl rfl) ⟨rfl, rfl⟩)
     · have hm2 := zh1 hX0 hX1 τ s hs lo hlo.1 hlo.2 (j + 1) hjl (e0 + 1)
       rcases hp2 : zbf lo (rst s (j + 1)) with ⟨hi', r⟩ | ⟨a, e⟩ | _
       · obtain ⟨m, hm1, hmm, rfl⟩ := zjj (by omega) hp2
         have hhi := zhd hp2
         rw [hp2, z4k hmm] at hm2
         have hn2 := z4t (X := X) τ s m hmm 0 0 (e0 + 1)
         have hf := z5v (X := X) s (I .i64 (m : Nat)) (m : Nat) 3 (e0 + 1) (by decide)
         have hq : z8k (rst s i) = zce lo hi' (rst s m) := by
          rw [z8k, hp]; simp only
          rw [if_pos hc, ht, if_neg h2, hp2]
         rw [hq, zce]
         by_cases h3 : nx (rst s m) = 125
         · rw [if_pos h3, z4k hmm]
           repeat' (first | (apply z0e; (first | refine z13 rfl (by decide) ?_ | (apply z09; (refine z14 rfl (z05 _ (e0, X) _) rfl rfl rfl rfl (by decide) ?_)) | (apply z08; (refine z00 (z03 rfl rfl) rfl rfl (by decide) ?_)) | (apply z19; (refine z00 (z1e (z1s (by omega) (by omega))) rfl rfl (by decide) ?_)) | (apply z0l; (first | refine z34 hf rfl (z05 _ (e0, X) _) (by decide) ?_ | refine z1l hm2 rfl (z05 _ (e0, X) _) (bkT (by repeat (first | exact hT | refine HT.upd ?_ hX0 hX1))) (by decide) ?_ | refine z1l hm rfl hX (bkT (by repeat (first | exact hT | refine HT.upd ?_ hX0 hX1))) (by decide) ?_ | refine z15 hn2 rfl (z0s (m := (e0 + 1, X)) (z05 _ (e0, X) _) (bkT (by repeat (first | exact hT | refine HT.upd ?_ hX0 hX1)))) (by decide) ?_ | refine z15 hn1 rfl (z0s (m := (e0 + 1, X)) (z05 _ (e0, X) _) (bkT (by repeat (first | exact hT | refine HT.upd ?_ hX0 hX1)))) (by decide) ?_ | refine z15 hn rfl (z0s (m := (e0 + 1, X)) (z05 _ (e0, X) _) (bkT (by repeat (first | exact hT | refine HT.upd ?_ hX0 hX1)))) (by decide) ?_)) | (apply z0i; (refine z18 (raw' := pbx s ((j + 1 : Nat) : Int) 0 0) rfl (z05 _ (e0, X) _) rfl rfl rfl rfl rfl rfl ?_)))) | (apply z0f; (first | refine z0z ?_ | apply z0c)) | (apply z0d; (first | apply z0h | apply z01 | refine z0g rfl ?_ | apply z06 | refine z1o rfl (fun _ => ?_) (fun _ => ?_) | refine z2w rfl (fun _ => ?_) (fun _ => ?_))))
           all_goals try (exfalso; omega)
           all_goals ((repeat rw [z0x]); first | exact z07 Tryz.func69 _ (z0m rfl rfl rfl rfl rfl rfl rfl) ⟨rfl, rfl⟩ | exact z07 Tryz.func69 _ (z1h rfl rfl rfl) ⟨rfl, rfl⟩ | exact z07 Tryz.func69 _ (z0a rfl rfl) ⟨rfl, rfl⟩ | exact z07 Tryz.func69 _ (z11 rfl rfl rfl rfl) ⟨rfl, rfl⟩)
         · rw [if_neg h3, z5o hmm]
           repeat' (first | (apply z0e; (first | refine z13 rfl (by decide) ?_ | (apply z09; (refine z14 rfl (z05 _ (e0, X) _) rfl rfl rfl rfl (by decide) ?_)) | (apply z08; (refine z00 (z03 rfl rfl) rfl rfl (by decide) ?_)) | (apply z19; (refine z00 (z1e (z1s (by omega) (by omega))) rfl rfl (by decide) ?_)) | (apply z0l; (first | refine z34 hf rfl (z05 _ (e0, X) _) (by decide) ?_ | refine z1l hm2 rfl (z05 _ (e0, X) _) (bkT (by repeat (first | exact hT | refine HT.upd ?_ hX0 hX1))) (by decide) ?_ | refine z1l hm rfl hX (bkT (by repeat (first | exact hT | refine HT.upd ?_ hX0 hX1))) (by decide) ?_ | refine z15 hn2 rfl (z0s (m := (e0 + 1, X)) (z05 _ (e0, X) _) (bkT (by repeat (first | exact hT | refine HT.upd ?_ hX0 hX1)))) (by decide) ?_ | refine z15 hn1 rfl (z0s (m := (e0 + 1, X)) (z05 _ (e0, X) _) (bkT (by repeat (first | exact hT | refine HT.upd ?_ hX0 hX1)))) (by decide) ?_ | refine z15 hn rfl (z0s (m := (e0 + 1, X)) (z05 _ (e0, X) _) (bkT (by repeat (first | exact hT | refine HT.upd ?_ hX0 hX1)))) (by decide) ?_)) | (apply z0i; (refine z18 (raw' := pbx s ((j + 1 : Nat) : Int) 0 0) rfl (z05 _ (e0, X) _) rfl rfl rfl rfl rfl rfl ?_)))) | (apply z0f; (first | refine z0z ?_ | apply z0c)) | (apply z0d; (first | apply z0h | apply z01 | refine z0g rfl ?_ | apply z06 | refine z1o rfl (fun _ => ?_) (fun _ => ?_) | refine z2w rfl (fun _ => ?_) (fun _ => ?_))))
           all_goals try (exfalso; omega)
           all_goals ((repeat rw [z0x]); refine z5g wkP ?_; first | exact z07 Tryz.func69 _ (z0m rfl rfl rfl rfl rfl rfl rfl) ⟨rfl, rfl⟩ | exact z07 Tryz.func69 _ (z1h rfl rfl rfl) ⟨rfl, rfl⟩ | exact z07 Tryz.func69 _ (z0a rfl rfl) ⟨rfl, rfl⟩ | exact z07 Tryz.func69 _ (z11 rfl rfl rfl rfl) ⟨rfl, rfl⟩)
       · rw [hp2] at hm2
         have hq : z8k (rst s i) = .err a e := by
          rw [z8k, hp]; simp only
          rw [if_pos hc, ht, if_neg h2, hp2]
         rw [hq]
         repeat' (first | (apply z0e; (first | refine z13 rfl (by decide) ?_ | (apply z09; (refine z14 rfl (z05 _ (e0, X) _) rfl rfl rfl rfl (by decide) ?_)) | (apply z08; (refine z00 (z03 rfl rfl) rfl rfl (by decide) ?_)) | (apply z19; (refine z00 (z1e (z1s (by omega) (by omega))) rfl rfl (by decide) ?_)) | (apply z0l; (first | refine z1l hm2 rfl (z05 _ (e0, X) _) (bkT (by repeat (first | exact hT | refine HT.upd ?_ hX0 hX1))) (by decide) ?_ | refine z1l hm rfl hX (bkT (by repeat (first | exact hT | refine HT.upd ?_ hX0 hX1))) (by decide) ?_ | refine z15 hn1 rfl (z0s (m := (e0 + 1, X)) (z05 _ (e0, X) _) (bkT (by repeat (first | exact hT | refine HT.upd ?_ hX0 hX1)))) (by decide) ?_ | refine z15 hn rfl (z0s (m := (e0 + 1, X)) (z05 _ (e0, X) _) (bkT (by repeat (first | exact hT | refine HT.upd ?_ hX0 hX1)))) (by decide) ?_)) | (apply z0i; (refine z18 (raw' := pbx s ((j + 1 : Nat) : Int) 0 0) rfl (z05 _ (e0, X) _) rfl rfl rfl rfl rfl rfl ?_)))) | (apply z0f; (first | refine z0z ?_ | apply z0c)) | (apply z0d; (first | apply z0h | apply z01 | refine z0o rfl ?_ | refine z0g rfl ?_ | apply z06 | refine z1o rfl (fun _ => ?_) (fun _ => ?_) | refine z2w rfl (fun _ => ?_) (fun _ => ?_))))
         all_goals try (exfalso; omega)
         all_goals ((repeat rw [z0x]); first | exact z07 Tryz.func69 _ (z0m rfl rfl rfl rfl rfl rfl rfl) ⟨rfl, rfl⟩ | exact z07 Tryz.func69 _ (z1h rfl rfl rfl) ⟨rfl, rfl⟩ | exact z07 Tryz.func69 _ (z0a rfl rfl) ⟨rfl, rfl⟩ | exact z07 Tryz.func69 _ (z11 rfl rfl rfl rfl) ⟨rfl, rfl⟩)
       · exact absurd hp2 zij
   · have hf := z5v (X := X) s (I .i64 (j : Nat)) (j : Nat) 3 (e0 + 1) (by decide)
     have hq : z8k (rst s i) = zce lo lo (rst s j) := by
      rw [z8k, hp]; simp only
      rw [if_neg hc]
     rw [hq, zce]
     by_cases h3 : nx (rst s j) = 125
     · rw [if_pos h3, z4k hj]
       repeat' (first | (apply z0e; (first | refine z13 rfl (by decide) ?_ | (apply z09; (refine z14 rfl (z05 _ (e0, X) _) rfl rfl rfl rfl (by decide) ?_)) | (apply z08; (refine z00 (z03 rfl rfl) rfl rfl (by decide) ?_)) | (apply z19; (refine z00 (z1e (z1s (by omega) (by omega))) rfl rfl (by decide) ?_)) | (apply z0l; (first | refine z34 hf rfl (z05 _ (e0, X) _) (by decide) ?_ | refine z1l hm rfl hX (bkT (by repeat (first | exact hT | refine HT.upd ?_ hX0 hX1))) (by decide) ?_ | refine z15 hn rfl (z0s (m := (e0 + 1, X)) (z05 _ (e0, X) _) (bkT (by repeat (first | exact hT | refine HT.upd ?_ hX0 hX1)))) (by decide) ?_)))) | (apply z0f; (first | refine z0z ?_ | apply z0c)) | (apply z0d; (first | apply z0h | apply z01 | refine z0g rfl ?_ | apply z06 | refine z1o rfl (fun _ => ?_) (fun _ => ?_) | refine z2w rfl (fun _ => ?_) (fun _ => ?_))))
       all_goals try (exfalso; omega)
       all_goals ((repeat rw [z0x]); first | exact z07 Tryz.func69 _ (z0m rfl rfl rfl rfl rfl rfl rfl) ⟨rfl, rfl⟩ | exact z07 Tryz.func69 _ (z1h rfl rfl rfl) ⟨rfl, rfl⟩ | exact z07 Tryz.func69 _ (z0a rfl rfl) ⟨rfl, rfl⟩ | exact z07 Tryz.func69 _ (z11 rfl rfl rfl rfl) ⟨rfl, rfl⟩)
     · rw [if_neg h3, z5o hj]
       repeat' (first | (apply z0e; (first | refine z13 rfl (by decide) ?_ | (apply z09; (refine z14 rfl (z05 _ (e0, X) _) rfl rfl rfl rfl (by decide) ?_)) | (apply z08; (refine z00 (z03 rfl rfl) rfl rfl (by decide) ?_)) | (apply z19; (refine z00 (z1e (z1s (by omega) (by omega))) rfl rfl (by decide) ?_)) | (apply z0l; (first | refine z34 hf rfl (z05 _ (e0, X) _) (by decide) ?_ | refine z1l hm rfl hX (bkT (by repeat (first | exact hT | refine HT.upd ?_ hX0 hX1))) (by decide) ?_ | refine z15 hn rfl (z0s (m := (e0 + 1, X)) (z05 _ (e0, X) _) (bkT (by repeat (first | exact hT | refine HT.upd ?_ hX0 hX1)))) (by decide) ?_)))) | (apply z0f; (first | refine z0z ?_ | apply z0c)) | (apply z0d; (first | apply z0h | apply z01 | refine z0g rfl ?_ | apply z06 | refine z1o rfl (fun _ => ?_) (fun _ => ?_) | refine z2w rfl (fun _ => ?_) (fun _ => ?_))))
       all_goals try (exfalso; omega)
       all_goals ((repeat rw [z0x]); refine z5g wkP ?_; first | exact z07 Tryz.func69 _ (z0m rfl rfl rfl rfl rfl rfl rfl) ⟨rfl, rfl⟩ | exact z07 Tryz.func69 _ (z1h rfl rfl rfl) ⟨rfl, rfl⟩ | exact z07 Tryz.func69 _ (z0a rfl rfl) ⟨rfl, rfl⟩ | exact z07 Tryz.func69 _ (z11 rfl rfl rfl rfl) ⟨rfl, rfl⟩)
 · rw [hp] at hm
   have hq : z8k (rst s i) = .err a e := by
    rw [z8k, hp]
   rw [hq]
   repeat' (first | (apply z0e; (first | refine z13 rfl (by decide) ?_ | (apply z0l; (refine z1l hm rfl hX (bkT (by repeat (first | exact hT | refine HT.upd ?_ hX0 hX1))) (by decide) ?_)))) | (apply z0f; (first | refine z0z ?_ | apply z0c)) | (apply z0d; (first | apply z0h | apply z01 | refine z0o rfl ?_)))
   all_goals try (exfalso; omega)
   all_goals ((repeat rw [z0x]); first | exact z07 Tryz.func69 _ (z0m rfl rfl rfl rfl rfl rfl rfl) ⟨rfl, rfl⟩ | exact z07 Tryz.func69 _ (z1h rfl rfl rfl) ⟨rfl, rfl⟩ | exact z07 Tryz.func69 _ (z0a rfl rfl) ⟨rfl, rfl⟩ | exact z07 Tryz.func69 _ (z11 rfl rfl rfl rfl) ⟨rfl, rfl⟩)
 · exact absurd hp zij
end
end Go.Proofs.YtjmbjgecfpggdaaGreatDoor
