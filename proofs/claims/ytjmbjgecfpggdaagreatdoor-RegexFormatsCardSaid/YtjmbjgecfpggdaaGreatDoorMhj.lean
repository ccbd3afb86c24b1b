/- A part of the proof: Shj. -/
import Derived.Shelf.Strings.OnBuilder
import Derived.Shelf.Strings.Prefix
import Derived.Test.YtjmbjgecfpggdaaGreatDoorProg
set_option linter.all false
set_option linter.unusedVariables false
set_option linter.unusedSimpArgs false
namespace Go.Proofs.YtjmbjgecfpggdaaGreatDoor
open Go.Proofs
open Go.Shelf
def zb1 : Go.Shelf.Ren := ⟨fun | 156 => 45 | 165 => 61 | 166 => 62 | 169 => 63 | 240 => 78 | 241 => 79 | 276 => 93 | 277 => 94 | n => n, fun | 31 => 76 | 9 => 9 | 3 => 3 | 4 => 4 | 0 => 0 | 20 => 20 | 72 => 97 | 76 => 101 | 70 => 94 | 37 => 95 | 75 => 100 | 127 => 112 | 164 => 128 | 5 => 5 | 80 => 103 | n => n, fun | n => n⟩
theorem zjv : Go.Proofs.Lays.n156 Tryz.prog zb1 := {
 mixed := by kernel_rfl
 f156 := Tryz.func45.trans (congrArg some (by kernel_rfl))
 f165 := Tryz.func61.trans (congrArg some (by kernel_rfl))
 f166 := Tryz.func62.trans (congrArg some (by kernel_rfl))
 f169 := Tryz.func63.trans (congrArg some (by kernel_rfl))
 f240 := Tryz.func78.trans (congrArg some (by kernel_rfl))
 f241 := Tryz.func79.trans (congrArg some (by kernel_rfl))
 f276 := Tryz.func93.trans (congrArg some (by kernel_rfl))
 f277 := Tryz.func94.trans (congrArg some (by kernel_rfl))
 t0 := Tryz.underlying0
 a0 := Tryz.isAgg0
 z0 := Tryz.sizeOf0
 v0 := Tryz.zeroValue0
 t3 := Tryz.underlying3
 a3 := Tryz.isAgg3
 z3 := Tryz.sizeOf3
 v3 := Tryz.zeroValue3
 t4 := Tryz.underlying4
 a4 := Tryz.isAgg4
 z4 := Tryz.sizeOf4
 v4 := Tryz.zeroValue4
 t9 := Tryz.underlying9
 a9 := Tryz.isAgg9
 z9 := Tryz.sizeOf9
 v9 := Tryz.zeroValue9
 t20 := Tryz.underlying20
 a20 := Tryz.isAgg20
 z20 := Tryz.sizeOf20
 v20 := Tryz.zeroValue20
 t31 := Tryz.underlying76
 a31 := Tryz.isAgg76
 z31 := Tryz.sizeOf76
 v31 := Tryz.zeroValue76
 t37 := Tryz.underlying95
 a37 := Tryz.isAgg95
 z37 := Tryz.sizeOf95
 v37 := Tryz.zeroValue95
 t70 := Tryz.underlying94
 a70 := Tryz.isAgg94
 z70 := Tryz.sizeOf94
 v70 := Tryz.zeroValue94
 t72 := Tryz.underlying97
 a72 := Tryz.isAgg97
 z72 := Tryz.sizeOf97
 v72 := Tryz.zeroValue97
 t75 := Tryz.underlying100
 a75 := Tryz.isAgg100
 z75 := Tryz.sizeOf100
 v75 := Tryz.zeroValue100
 t76 := Tryz.underlying101
 a76 := Tryz.isAgg101
 z76 := Tryz.sizeOf101
 v76 := Tryz.zeroValue101
 t127 := Tryz.underlying112
 a127 := Tryz.isAgg112
 z127 := Tryz.sizeOf112
 v127 := Tryz.zeroValue112
 t164 := Tryz.underlying128
 a164 := Tryz.isAgg128
 z164 := Tryz.sizeOf128
 v164 := Tryz.zeroValue128 }
theorem z6d : Builder.Extra Tryz.prog zb1 := {
 sizeBuilder := by kernel_rfl
 liesBuilder := by kernel_rfl
 t5 := Tryz.underlying5
 a5 := Tryz.isAgg5
 z5 := Tryz.sizeOf5
 v5 := Tryz.zeroValue5
 infoByte := by kernel_rfl
 cellsByte := by kernel_rfl
 sizeByte := by kernel_rfl
 neB5 := by decide }
open Go.RowKit in
theorem strings_Join_none (a : Option Addr) (c : Nat) (sep : ByteArray) (w : World) :
  Calls Tryz.prog 45 #[.slice a 0 c, .string sep] w fun e w' => e = .returned (.string ⟨#[]⟩) ∧ w' = w := Any.strings_Join_none zjv z6d a c sep w
open Go.RowKit in
theorem strings_Join (bk o c : Nat) (xs : List ByteArray) (sep : ByteArray) (w : World) (hcells : ∀ (j : Nat) x, xs[j]? = some x → w.cell? ⟨bk, o + j, none⟩ = some (.string x)) (hbk : bk < w.heap.size) (hN : xs.length ≤ 140737488355328) (hcap : xs.length ≤ c) (hlen : (Lib.join (xs.map (·.data.toList)) sep.data.toList).length ≤ 140737488355328) :
  Calls Tryz.prog 45 #[.slice (some ⟨bk, o, none⟩) xs.length c, .string sep] w fun e w' => e = .returned (.string ⟨(Lib.join (xs.map (·.data.toList)) sep.data.toList).toArray⟩) ∧ Below w.heap.size w w' := Any.strings_Join zjv z6d bk o c xs sep w hcells hbk hN hcap hlen
def zgg : Go.Shelf.Ren := ⟨fun | 101 => 65 | 208 => 80 | 206 => 95 | n => n, fun | 9 => 9 | 4 => 4 | 3 => 3 | n => n, fun | n => n⟩
theorem zqi : Go.Proofs.Lays.n101 Tryz.prog zgg := {
 mixed := by kernel_rfl
 f101 := Tryz.func65.trans (congrArg some (by kernel_rfl))
 f206 := Tryz.func95.trans (congrArg some (by kernel_rfl))
 f208 := Tryz.func80.trans (congrArg some (by kernel_rfl))
 t3 := Tryz.underlying3
 a3 := Tryz.isAgg3
 z3 := Tryz.sizeOf3
 v3 := Tryz.zeroValue3
 t4 := Tryz.underlying4
 a4 := Tryz.isAgg4
 z4 := Tryz.sizeOf4
 v4 := Tryz.zeroValue4
 t9 := Tryz.underlying9
 a9 := Tryz.isAgg9
 z9 := Tryz.sizeOf9
 v9 := Tryz.zeroValue9 }
open Go.RowKit Go.Lib in
theorem strings_TrimPrefix (s p : ByteArray) (w : World) :
  Calls Tryz.prog 65 #[.string s, .string p] w fun e w' => e = .returned (.string ⟨(Lib.trimPrefix s.data.toList p.data.toList).toArray⟩) ∧ w' = w := Any.strings_TrimPrefix zqi s p w
end Go.Proofs.YtjmbjgecfpggdaaGreatDoor
