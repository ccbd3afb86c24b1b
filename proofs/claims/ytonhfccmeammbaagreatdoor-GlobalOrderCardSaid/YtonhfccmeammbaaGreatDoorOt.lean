/- A part of the proof: Types to Defs. -/
import Derived.Test.YtonhfccmeammbaaGreatDoorOa
import Derived.Test.YtonhfccmeammbaaGreatDoorProg
import Derived.Test.YtonhfccmeammbaaGreatDoorOc
import Derived.ArgAppend
import Derived.Test.YtonhfccmeammbaaGreatDoorOx
set_option linter.all false
namespace Go.Proofs.YtonhfccmeammbaaGreatDoor
open Go.Ab
instance T3:z0x Tryz.prog 3 ⟨1,8,(.int .i64),[],[.int .i64 0]⟩:=⟨by kernel_rfl⟩
instance T4:z0x Tryz.prog 4 ⟨1,1,.bool,[],[.bool false]⟩:=⟨by kernel_rfl⟩
instance T5:z0x Tryz.prog 5 ⟨1,1,(.int .u8),[],[.int .u8 0]⟩:=⟨by kernel_rfl⟩
instance T9:z0x Tryz.prog 9 ⟨1,16,.str,[],[.string ⟨#[]⟩]⟩:=⟨by kernel_rfl⟩
instance T21:z0x Tryz.prog 21 ⟨1,4,(.int .i32),[],[.int .i32 0]⟩:=⟨by kernel_rfl⟩
instance T22:z0x Tryz.prog 22 ⟨1,24,(.slice 3),[],[z13]⟩:=⟨by kernel_rfl⟩
instance T25:z0x Tryz.prog 25 ⟨1,24,(.slice 79),[],[z13]⟩:=⟨by kernel_rfl⟩
instance T26:z0x Tryz.prog 26 ⟨1,24,(.slice 30),[],[z13]⟩:=⟨by kernel_rfl⟩
instance T27:z0x Tryz.prog 27 ⟨1,24,(.slice 66),[],[z13]⟩:=⟨by kernel_rfl⟩
instance T28:z0x Tryz.prog 28 ⟨1,24,(.slice 84),[],[z13]⟩:=⟨by kernel_rfl⟩
instance T29:z0x Tryz.prog 29 ⟨1,24,(.slice 55),[],[z13]⟩:=⟨by kernel_rfl⟩
instance T30:z0x Tryz.prog 30 ⟨1,24,(.slice 9),[],[z13]⟩:=⟨by kernel_rfl⟩
instance T32:z0x Tryz.prog 32 ⟨7,168,.struct,[(0,1),(1,1),(2,1),(3,1),(4,1),(5,1),(6,1)],[z13,z13,z13,z13,z13,z13,z13]⟩:=⟨by kernel_rfl⟩
instance T34:z0x Tryz.prog 34 ⟨1,24,(.slice 36),[],[z13]⟩:=⟨by kernel_rfl⟩
instance T36:z0x Tryz.prog 36 ⟨11,160,.struct,[(0,1),(1,1),(2,1),(3,1),(4,1),(5,1),(6,1),(7,1),(8,1),(9,1),(10,1)],[.int .i64 0,.string ⟨#[]⟩,.string ⟨#[]⟩,.string ⟨#[]⟩,.string ⟨#[]⟩,.string ⟨#[]⟩,.bool false,.int .i64 0,.int .i64 0,z13,z13]⟩:=⟨by kernel_rfl⟩
instance T39:z0x Tryz.prog 39 ⟨1,24,(.slice 42),[],[z13]⟩:=⟨by kernel_rfl⟩
instance T42:z0x Tryz.prog 42 ⟨3,40,.struct,[(0,1),(1,1),(2,1)],[.int .i64 0,.int .i64 0,z13]⟩:=⟨by kernel_rfl⟩
instance T55:z0x Tryz.prog 55 ⟨4,40,.struct,[(0,1),(1,1),(2,1),(3,1)],[.string ⟨#[]⟩,.int .i64 0,.int .i64 0,.int .i64 0]⟩:=⟨by kernel_rfl⟩
instance T57:z0x Tryz.prog 57 ⟨2,32,.struct,[(0,1),(1,1)],[z13,.int .i64 0]⟩:=⟨by kernel_rfl⟩
instance T64:z0x Tryz.prog 64 ⟨1,24,(.slice 82),[],[z13]⟩:=⟨by kernel_rfl⟩
instance T66:z0x Tryz.prog 66 ⟨4,56,.struct,[(0,1),(1,1),(2,1),(3,1)],[.string ⟨#[]⟩,.int .i64 0,.int .i64 0,z13]⟩:=⟨by kernel_rfl⟩
instance T67:z0x Tryz.prog 67 ⟨1,8,.func,[],[.nilFunc]⟩:=⟨by kernel_rfl⟩
instance T79:z0x Tryz.prog 79 ⟨2,24,.struct,[(0,1),(1,1)],[.string ⟨#[]⟩,.bool false]⟩:=⟨by kernel_rfl⟩
instance T82:z0x Tryz.prog 82 ⟨2,32,.struct,[(0,1),(1,1)],[.string ⟨#[]⟩,.string ⟨#[]⟩]⟩:=⟨by kernel_rfl⟩
instance T84:z0x Tryz.prog 84 ⟨4,56,.struct,[(0,1),(1,1),(2,1),(3,1)],[.string ⟨#[]⟩,.int .i64 0,.int .i64 0,z13]⟩:=⟨by kernel_rfl⟩
instance T105:z0x Tryz.prog 105 ⟨1,8,.func,[],[.nilFunc]⟩:=⟨by kernel_rfl⟩
instance T107:z0x Tryz.prog 107 ⟨20,344,.struct,[(0,7),(7,11),(18,1),(19,1)],[z13,z13,z13,z13,z13,z13,z13,.int .i64 0,.string ⟨#[]⟩,.string ⟨#[]⟩,.string ⟨#[]⟩,.string ⟨#[]⟩,.string ⟨#[]⟩,.bool false,.int .i64 0,.int .i64 0,z13,z13,.int .i64 0,.int .i64 0]⟩:=⟨by kernel_rfl⟩
instance T130:z0x Tryz.prog 130 ⟨1,24,(.slice 105),[],[z13]⟩:=⟨by kernel_rfl⟩
instance T132:z0x Tryz.prog 132 ⟨1,24,(.slice 137),[],[z13]⟩:=⟨by kernel_rfl⟩
instance T137:z0x Tryz.prog 137 ⟨4,32,.struct,[(0,1),(1,1),(2,1),(3,1)],[.int .i32 0,.int .i64 0,.int .i64 0,.bool false]⟩:=⟨by kernel_rfl⟩
instance T208:z0x Tryz.prog 208 ⟨1,24,(.slice 5),[],[z13]⟩:=⟨by kernel_rfl⟩
end Go.Proofs.YtonhfccmeammbaaGreatDoor
namespace Go.Proofs.YtonhfccmeammbaaGreatDoor
open Go.Ab Go.Rx
abbrev Str:=ByteArray
abbrev z4o (s:Str):D:=.lit (.string s)
abbrev z3b (x:Int):D:=.lit (.int .i64 x)
abbrev zew (b:Bool):D:=.lit (.bool b)
theorem mix:Tryz.prog.follows .mixedOrders=true:=by kernel_rfl
theorem getD_some {α:Type} {l:List α} {i:Nat} {x y:α} (h:l[i]? =some x):l.getD i y=x:=by simp[List.getD,h]
end Go.Proofs.YtonhfccmeammbaaGreatDoor
