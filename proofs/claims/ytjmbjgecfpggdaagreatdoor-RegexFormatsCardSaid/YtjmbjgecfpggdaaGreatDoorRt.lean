/- A part of the proof: Types, Defs. -/
import Derived.Test.YtjmbjgecfpggdaaGreatDoorRa
import Derived.Test.YtjmbjgecfpggdaaGreatDoorProg
import Derived.Test.YtjmbjgecfpggdaaGreatDoorRc
import Derived.Test.YtjmbjgecfpggdaaGreatDoorRx
set_option linter.all false
set_option linter.unusedVariables false
set_option linter.unusedSimpArgs false
namespace Go.Proofs.YtjmbjgecfpggdaaGreatDoor
open Go.Ab
instance T1 : z1d Tryz.prog 1 ⟨1, 8, .func, [], [.nilFunc]⟩ := ⟨by kernel_rfl⟩
instance T2 : z1d Tryz.prog 2 ⟨1, 8, (.int .i64), [], [.int .i64 0]⟩ := ⟨by kernel_rfl⟩
instance T3 : z1d Tryz.prog 3 ⟨1, 8, (.int .i64), [], [.int .i64 0]⟩ := ⟨by kernel_rfl⟩
instance T4 : z1d Tryz.prog 4 ⟨1, 1, .bool, [], [.bool false]⟩ := ⟨by kernel_rfl⟩
instance T5 : z1d Tryz.prog 5 ⟨1, 1, (.int .u8), [], [.int .u8 0]⟩ := ⟨by kernel_rfl⟩
instance T6 : z1d Tryz.prog 6 ⟨1, 1, (.int .u8), [], [.int .u8 0]⟩ := ⟨by kernel_rfl⟩
instance T7 : z1d Tryz.prog 7 ⟨4, 24, .struct, [(0, 1), (1, 1), (2, 1), (3, 1)], [.int .i64 0, .int .i64 0, .bool false, .int .u8 0]⟩ := ⟨by kernel_rfl⟩
instance T8 : z1d Tryz.prog 8 ⟨4, 24, .struct, [(0, 1), (1, 1), (2, 1), (3, 1)], [.int .i64 0, .int .i64 0, .bool false, .int .u8 0]⟩ := ⟨by kernel_rfl⟩
instance T9 : z1d Tryz.prog 9 ⟨1, 16, .str, [], [.string ⟨#[]⟩]⟩ := ⟨by kernel_rfl⟩
instance T10 : z1d Tryz.prog 10 ⟨1, 16, .str, [], [.string ⟨#[]⟩]⟩ := ⟨by kernel_rfl⟩
instance T11 : z1d Tryz.prog 11 ⟨1, 16, .str, [], [.string ⟨#[]⟩]⟩ := ⟨by kernel_rfl⟩
instance T12 : z1d Tryz.prog 12 ⟨1, 8, (.int .u64), [], [.int .u64 0]⟩ := ⟨by kernel_rfl⟩
instance T13 : z1d Tryz.prog 13 ⟨2, 24, .struct, [(0, 1), (1, 1)], [.string ⟨#[]⟩, .int .u64 0]⟩ := ⟨by kernel_rfl⟩
instance T14 : z1d Tryz.prog 14 ⟨2, 24, .struct, [(0, 1), (1, 1)], [.string ⟨#[]⟩, .int .u64 0]⟩ := ⟨by kernel_rfl⟩
instance T15 : z1d Tryz.prog 15 ⟨1, 8, (.ptr 162), [], [.pointer none]⟩ := ⟨by kernel_rfl⟩
instance T16 : z1d Tryz.prog 16 ⟨1, 8, (.ptr 165), [], [.pointer none]⟩ := ⟨by kernel_rfl⟩
instance T17 : z1d Tryz.prog 17 ⟨1, 8, (.ptr 172), [], [.pointer none]⟩ := ⟨by kernel_rfl⟩
instance T18 : z1d Tryz.prog 18 ⟨1, 8, .struct, [(0, 1)], [.pointer none]⟩ := ⟨by kernel_rfl⟩
instance T19 : z1d Tryz.prog 19 ⟨1, 8, .struct, [(0, 1)], [.pointer none]⟩ := ⟨by kernel_rfl⟩
instance T20 : z1d Tryz.prog 20 ⟨1, 16, .other, [], [.nilIface]⟩ := ⟨by kernel_rfl⟩
instance T21 : z1d Tryz.prog 21 ⟨1, 4, (.int .i32), [], [.int .i32 0]⟩ := ⟨by kernel_rfl⟩
instance T22 : z1d Tryz.prog 22 ⟨1, 24, (.slice 52), [], [z57]⟩ := ⟨by kernel_rfl⟩
instance T23 : z1d Tryz.prog 23 ⟨1, 24, (.slice 25), [], [z57]⟩ := ⟨by kernel_rfl⟩
instance T24 : z1d Tryz.prog 24 ⟨5, 72, .struct, [(0, 1), (1, 1), (2, 1), (3, 1), (4, 1)], [.int .i64 0, .int .i64 0, .int .i64 0, z57, z57]⟩ := ⟨by kernel_rfl⟩
instance T25 : z1d Tryz.prog 25 ⟨5, 72, .struct, [(0, 1), (1, 1), (2, 1), (3, 1), (4, 1)], [.int .i64 0, .int .i64 0, .int .i64 0, z57, z57]⟩ := ⟨by kernel_rfl⟩
instance T26 : z1d Tryz.prog 26 ⟨1, 8, (.int .i64), [], [.int .i64 0]⟩ := ⟨by kernel_rfl⟩
instance T28 : z1d Tryz.prog 28 ⟨1, 8, .func, [], [.nilFunc]⟩ := ⟨by kernel_rfl⟩
instance T29 : z1d Tryz.prog 29 ⟨1, 8, .func, [], [.nilFunc]⟩ := ⟨by kernel_rfl⟩
instance T30 : z1d Tryz.prog 30 ⟨1, 8, .func, [], [.nilFunc]⟩ := ⟨by kernel_rfl⟩
instance T31 : z1d Tryz.prog 31 ⟨1, 8, .func, [], [.nilFunc]⟩ := ⟨by kernel_rfl⟩
instance T32 : z1d Tryz.prog 32 ⟨1, 8, .func, [], [.nilFunc]⟩ := ⟨by kernel_rfl⟩
instance T33 : z1d Tryz.prog 33 ⟨1, 8, .func, [], [.nilFunc]⟩ := ⟨by kernel_rfl⟩
instance T34 : z1d Tryz.prog 34 ⟨1, 8, .func, [], [.nilFunc]⟩ := ⟨by kernel_rfl⟩
instance T35 : z1d Tryz.prog 35 ⟨1, 8, .func, [], [.nilFunc]⟩ := ⟨by kernel_rfl⟩
instance T37 : z1d Tryz.prog 37 ⟨1, 8, .func, [], [.nilFunc]⟩ := ⟨by kernel_rfl⟩
instance T38 : z1d Tryz.prog 38 ⟨4, 40, .struct, [(0, 1), (1, 1), (2, 1), (3, 1)], [.string ⟨#[]⟩, .int .i64 0, .int .i64 0, .int .i64 0]⟩ := ⟨by kernel_rfl⟩
instance T39 : z1d Tryz.prog 39 ⟨4, 40, .struct, [(0, 1), (1, 1), (2, 1), (3, 1)], [.string ⟨#[]⟩, .int .i64 0, .int .i64 0, .int .i64 0]⟩ := ⟨by kernel_rfl⟩
instance T41 : z1d Tryz.prog 41 ⟨1, 8, .func, [], [.nilFunc]⟩ := ⟨by kernel_rfl⟩
instance T42 : z1d Tryz.prog 42 ⟨1, 8, .func, [], [.nilFunc]⟩ := ⟨by kernel_rfl⟩
instance T43 : z1d Tryz.prog 43 ⟨1, 8, (.ptr 47), [], [.pointer none]⟩ := ⟨by kernel_rfl⟩
instance T44 : z1d Tryz.prog 44 ⟨1, 24, (.slice 49), [], [z57]⟩ := ⟨by kernel_rfl⟩
instance T45 : z1d Tryz.prog 45 ⟨1, 8, .func, [], [.nilFunc]⟩ := ⟨by kernel_rfl⟩
instance T46 : z1d Tryz.prog 46 ⟨6, 72, .struct, [(0, 1), (1, 1), (2, 1), (3, 1), (4, 1), (5, 1)], [.string ⟨#[]⟩, z57, .int .i64 0, .int .i64 0, .int .i64 0, .bool false]⟩ := ⟨by kernel_rfl⟩
instance T47 : z1d Tryz.prog 47 ⟨6, 72, .struct, [(0, 1), (1, 1), (2, 1), (3, 1), (4, 1), (5, 1)], [.string ⟨#[]⟩, z57, .int .i64 0, .int .i64 0, .int .i64 0, .bool false]⟩ := ⟨by kernel_rfl⟩
instance T48 : z1d Tryz.prog 48 ⟨4, 32, .struct, [(0, 1), (1, 1), (2, 1), (3, 1)], [.int .i32 0, .int .i64 0, .int .i64 0, .bool false]⟩ := ⟨by kernel_rfl⟩
instance T49 : z1d Tryz.prog 49 ⟨4, 32, .struct, [(0, 1), (1, 1), (2, 1), (3, 1)], [.int .i32 0, .int .i64 0, .int .i64 0, .bool false]⟩ := ⟨by kernel_rfl⟩
instance T50 : z1d Tryz.prog 50 ⟨1, 8, .func, [], [.nilFunc]⟩ := ⟨by kernel_rfl⟩
instance T51 : z1d Tryz.prog 51 ⟨2, 8, .struct, [(0, 1), (1, 1)], [.int .i32 0, .int .i32 0]⟩ := ⟨by kernel_rfl⟩
instance T52 : z1d Tryz.prog 52 ⟨2, 8, .struct, [(0, 1), (1, 1)], [.int .i32 0, .int .i32 0]⟩ := ⟨by kernel_rfl⟩
instance T53 : z1d Tryz.prog 53 ⟨1, 8, .func, [], [.nilFunc]⟩ := ⟨by kernel_rfl⟩
instance T54 : z1d Tryz.prog 54 ⟨1, 8, .func, [], [.nilFunc]⟩ := ⟨by kernel_rfl⟩
instance T55 : z1d Tryz.prog 55 ⟨1, 8, .func, [], [.nilFunc]⟩ := ⟨by kernel_rfl⟩
instance T56 : z1d Tryz.prog 56 ⟨1, 8, (.ptr 3), [], [.pointer none]⟩ := ⟨by kernel_rfl⟩
instance T58 : z1d Tryz.prog 58 ⟨1, 8, .func, [], [.nilFunc]⟩ := ⟨by kernel_rfl⟩
instance T59 : z1d Tryz.prog 59 ⟨1, 8, .func, [], [.nilFunc]⟩ := ⟨by kernel_rfl⟩
instance T60 : z1d Tryz.prog 60 ⟨1, 8, .func, [], [.nilFunc]⟩ := ⟨by kernel_rfl⟩
instance T61 : z1d Tryz.prog 61 ⟨1, 8, .func, [], [.nilFunc]⟩ := ⟨by kernel_rfl⟩
instance T62 : z1d Tryz.prog 62 ⟨1, 8, .func, [], [.nilFunc]⟩ := ⟨by kernel_rfl⟩
instance T63 : z1d Tryz.prog 63 ⟨3, 24, .struct, [(0, 1), (1, 1), (2, 1)], [.int .i32 0, .int .i64 0, .int .i64 0]⟩ := ⟨by kernel_rfl⟩
instance T64 : z1d Tryz.prog 64 ⟨3, 24, .struct, [(0, 1), (1, 1), (2, 1)], [.int .i32 0, .int .i64 0, .int .i64 0]⟩ := ⟨by kernel_rfl⟩
instance T65 : z1d Tryz.prog 65 ⟨1, 8, (.ptr 39), [], [.pointer none]⟩ := ⟨by kernel_rfl⟩
instance T66 : z1d Tryz.prog 66 ⟨1, 8, .func, [], [.nilFunc]⟩ := ⟨by kernel_rfl⟩
instance T67 : z1d Tryz.prog 67 ⟨1, 8, .func, [], [.nilFunc]⟩ := ⟨by kernel_rfl⟩
instance T68 : z1d Tryz.prog 68 ⟨1, 8, .func, [], [.nilFunc]⟩ := ⟨by kernel_rfl⟩
instance T70 : z1d Tryz.prog 70 ⟨1, 8, .func, [], [.nilFunc]⟩ := ⟨by kernel_rfl⟩
instance T71 : z1d Tryz.prog 71 ⟨1, 8, .func, [], [.nilFunc]⟩ := ⟨by kernel_rfl⟩
instance T72 : z1d Tryz.prog 72 ⟨1, 24, (.slice 21), [], [z57]⟩ := ⟨by kernel_rfl⟩
instance T73 : z1d Tryz.prog 73 ⟨1, 8, .func, [], [.nilFunc]⟩ := ⟨by kernel_rfl⟩
instance T74 : z1d Tryz.prog 74 ⟨1, 8, .func, [], [.nilFunc]⟩ := ⟨by kernel_rfl⟩
instance T75 : z1d Tryz.prog 75 ⟨1, 8, .func, [], [.nilFunc]⟩ := ⟨by kernel_rfl⟩
instance T76 : z1d Tryz.prog 76 ⟨1, 24, (.slice 9), [], [z57]⟩ := ⟨by kernel_rfl⟩
instance T77 : z1d Tryz.prog 77 ⟨1, 8, .func, [], [.nilFunc]⟩ := ⟨by kernel_rfl⟩
instance T78 : z1d Tryz.prog 78 ⟨1, 8, .func, [], [.nilFunc]⟩ := ⟨by kernel_rfl⟩
instance T79 : z1d Tryz.prog 79 ⟨1, 8, .func, [], [.nilFunc]⟩ := ⟨by kernel_rfl⟩
instance T80 : z1d Tryz.prog 80 ⟨1, 8, .func, [], [.nilFunc]⟩ := ⟨by kernel_rfl⟩
instance T82 : z1d Tryz.prog 82 ⟨1, 8, .func, [], [.nilFunc]⟩ := ⟨by kernel_rfl⟩
instance T83 : z1d Tryz.prog 83 ⟨1, 8, (.ptr 90), [], [.pointer none]⟩ := ⟨by kernel_rfl⟩
instance T84 : z1d Tryz.prog 84 ⟨1, 8, .func, [], [.nilFunc]⟩ := ⟨by kernel_rfl⟩
instance T85 : z1d Tryz.prog 85 ⟨1, 8, (.int .u64), [], [.int .u64 0]⟩ := ⟨by kernel_rfl⟩
instance T86 : z1d Tryz.prog 86 ⟨1, 8, .func, [], [.nilFunc]⟩ := ⟨by kernel_rfl⟩
instance T87 : z1d Tryz.prog 87 ⟨1, 24, (.slice 22), [], [z57]⟩ := ⟨by kernel_rfl⟩
instance T88 : z1d Tryz.prog 88 ⟨1, 24, (.slice 85), [], [z57]⟩ := ⟨by kernel_rfl⟩
instance T89 : z1d Tryz.prog 89 ⟨5, 72, .struct, [(0, 1), (1, 1), (2, 1), (3, 1), (4, 1)], [z57, .int .u64 0, .int .u64 0, z57, .bool false]⟩ := ⟨by kernel_rfl⟩
instance T90 : z1d Tryz.prog 90 ⟨5, 72, .struct, [(0, 1), (1, 1), (2, 1), (3, 1), (4, 1)], [z57, .int .u64 0, .int .u64 0, z57, .bool false]⟩ := ⟨by kernel_rfl⟩
instance T91 : z1d Tryz.prog 91 ⟨1, 8, .func, [], [.nilFunc]⟩ := ⟨by kernel_rfl⟩
instance T92 : z1d Tryz.prog 92 ⟨1, 8, .func, [], [.nilFunc]⟩ := ⟨by kernel_rfl⟩
instance T93 : z1d Tryz.prog 93 ⟨1, 8, .func, [], [.nilFunc]⟩ := ⟨by kernel_rfl⟩
instance T94 : z1d Tryz.prog 94 ⟨1, 8, (.ptr 97), [], [.pointer none]⟩ := ⟨by kernel_rfl⟩
instance T95 : z1d Tryz.prog 95 ⟨1, 24, (.slice 5), [], [z57]⟩ := ⟨by kernel_rfl⟩
instance T96 : z1d Tryz.prog 96 ⟨2, 32, .struct, [(0, 1), (1, 1)], [.pointer none, z57]⟩ := ⟨by kernel_rfl⟩
instance T97 : z1d Tryz.prog 97 ⟨2, 32, .struct, [(0, 1), (1, 1)], [.pointer none, z57]⟩ := ⟨by kernel_rfl⟩
instance T98 : z1d Tryz.prog 98 ⟨1, 8, .func, [], [.nilFunc]⟩ := ⟨by kernel_rfl⟩
instance T99 : z1d Tryz.prog 99 ⟨1, 16, .other, [], [.nilIface]⟩ := ⟨by kernel_rfl⟩
instance T100 : z1d Tryz.prog 100 ⟨1, 16, .other, [], [.nilIface]⟩ := ⟨by kernel_rfl⟩
instance T102 : z1d Tryz.prog 102 ⟨1, 8, .func, [], [.nilFunc]⟩ := ⟨by kernel_rfl⟩
instance T103 : z1d Tryz.prog 103 ⟨1, 8, .func, [], [.nilFunc]⟩ := ⟨by kernel_rfl⟩
instance T104 : z1d Tryz.prog 104 ⟨1, 8, .func, [], [.nilFunc]⟩ := ⟨by kernel_rfl⟩
instance T105 : z1d Tryz.prog 105 ⟨1, 8, .func, [], [.nilFunc]⟩ := ⟨by kernel_rfl⟩
instance T106 : z1d Tryz.prog 106 ⟨1, 8, .func, [], [.nilFunc]⟩ := ⟨by kernel_rfl⟩
instance T107 : z1d Tryz.prog 107 ⟨3, 24, .struct, [(0, 1), (1, 1), (2, 1)], [.int .u64 0, .int .u64 0, .bool false]⟩ := ⟨by kernel_rfl⟩
instance T108 : z1d Tryz.prog 108 ⟨3, 24, .struct, [(0, 1), (1, 1), (2, 1)], [.int .u64 0, .int .u64 0, .bool false]⟩ := ⟨by kernel_rfl⟩
instance T109 : z1d Tryz.prog 109 ⟨1, 8, .func, [], [.nilFunc]⟩ := ⟨by kernel_rfl⟩
instance T110 : z1d Tryz.prog 110 ⟨1, 8, .func, [], [.nilFunc]⟩ := ⟨by kernel_rfl⟩
instance T111 : z1d Tryz.prog 111 ⟨1, 8, .func, [], [.nilFunc]⟩ := ⟨by kernel_rfl⟩
instance T112 : z1d Tryz.prog 112 ⟨1, 8, (.ptr 5), [], [.pointer none]⟩ := ⟨by kernel_rfl⟩
instance T113 : z1d Tryz.prog 113 ⟨1, 8, .func, [], [.nilFunc]⟩ := ⟨by kernel_rfl⟩
instance T114 : z1d Tryz.prog 114 ⟨1, 8, .func, [], [.nilFunc]⟩ := ⟨by kernel_rfl⟩
instance T116 : z1d Tryz.prog 116 ⟨1, 8, .func, [], [.nilFunc]⟩ := ⟨by kernel_rfl⟩
instance T118 : z1d Tryz.prog 118 ⟨1, 8, .func, [], [.nilFunc]⟩ := ⟨by kernel_rfl⟩
instance T120 : z1d Tryz.prog 120 ⟨1, 8, (.int .u64), [], [.int .u64 0]⟩ := ⟨by kernel_rfl⟩
instance T121 : z1d Tryz.prog 121 ⟨2, 2, .struct, [(0, 1), (1, 1)], [.int .u8 0, .int .u8 0]⟩ := ⟨by kernel_rfl⟩
instance T122 : z1d Tryz.prog 122 ⟨2, 2, .struct, [(0, 1), (1, 1)], [.int .u8 0, .int .u8 0]⟩ := ⟨by kernel_rfl⟩
instance T123 : z1d Tryz.prog 123 ⟨32, 32, (.array 16 122), [], [.int .u8 0, .int .u8 0, .int .u8 0, .int .u8 0, .int .u8 0, .int .u8 0, .int .u8 0, .int .u8 0, .int .u8 0, .int .u8 0, .int .u8 0, .int .u8 0, .int .u8 0, .int .u8 0, .int .u8 0, .int .u8 0, .int .u8 0, .int .u8 0, .int .u8 0, .int .u8 0, .int .u8 0, .int .u8 0, .int .u8 0, .int .u8 0, .int .u8 0, .int .u8 0, .int .u8 0, .int .u8 0, .int .u8 0, .int .u8 0, .int .u8 0, .int .u8 0]⟩ := ⟨by kernel_rfl⟩
instance T124 : z1d Tryz.prog 124 ⟨1, 8, .func, [], [.nilFunc]⟩ := ⟨by kernel_rfl⟩
instance T125 : z1d Tryz.prog 125 ⟨1, 8, .func, [], [.nilFunc]⟩ := ⟨by kernel_rfl⟩
instance T126 : z1d Tryz.prog 126 ⟨1, 8, .func, [], [.nilFunc]⟩ := ⟨by kernel_rfl⟩
instance T127 : z1d Tryz.prog 127 ⟨1, 8, .func, [], [.nilFunc]⟩ := ⟨by kernel_rfl⟩
instance T128 : z1d Tryz.prog 128 ⟨1, 8, .other, [], [.pointer none]⟩ := ⟨by kernel_rfl⟩
instance T129 : z1d Tryz.prog 129 ⟨1, 8, .func, [], [.nilFunc]⟩ := ⟨by kernel_rfl⟩
instance T130 : z1d Tryz.prog 130 ⟨1, 8, .func, [], [.nilFunc]⟩ := ⟨by kernel_rfl⟩
instance T131 : z1d Tryz.prog 131 ⟨1, 8, .func, [], [.nilFunc]⟩ := ⟨by kernel_rfl⟩
instance T132 : z1d Tryz.prog 132 ⟨1, 8, .func, [], [.nilFunc]⟩ := ⟨by kernel_rfl⟩
instance T133 : z1d Tryz.prog 133 ⟨1, 8, .func, [], [.nilFunc]⟩ := ⟨by kernel_rfl⟩
instance T134 : z1d Tryz.prog 134 ⟨1, 8, .func, [], [.nilFunc]⟩ := ⟨by kernel_rfl⟩
instance T135 : z1d Tryz.prog 135 ⟨1, 8, .func, [], [.nilFunc]⟩ := ⟨by kernel_rfl⟩
instance T136 : z1d Tryz.prog 136 ⟨1, 8, .func, [], [.nilFunc]⟩ := ⟨by kernel_rfl⟩
instance T137 : z1d Tryz.prog 137 ⟨1, 8, .func, [], [.nilFunc]⟩ := ⟨by kernel_rfl⟩
instance T138 : z1d Tryz.prog 138 ⟨1, 8, .func, [], [.nilFunc]⟩ := ⟨by kernel_rfl⟩
instance T139 : z1d Tryz.prog 139 ⟨1, 8, .func, [], [.nilFunc]⟩ := ⟨by kernel_rfl⟩
instance T140 : z1d Tryz.prog 140 ⟨1, 8, .func, [], [.nilFunc]⟩ := ⟨by kernel_rfl⟩
instance T141 : z1d Tryz.prog 141 ⟨1, 8, .func, [], [.nilFunc]⟩ := ⟨by kernel_rfl⟩
instance T142 : z1d Tryz.prog 142 ⟨1, 8, .func, [], [.nilFunc]⟩ := ⟨by kernel_rfl⟩
instance T143 : z1d Tryz.prog 143 ⟨1, 8, .func, [], [.nilFunc]⟩ := ⟨by kernel_rfl⟩
instance T144 : z1d Tryz.prog 144 ⟨1, 8, (.int .i64), [], [.int .i64 0]⟩ := ⟨by kernel_rfl⟩
instance T146 : z1d Tryz.prog 146 ⟨1, 8, .func, [], [.nilFunc]⟩ := ⟨by kernel_rfl⟩
instance T147 : z1d Tryz.prog 147 ⟨1, 8, .func, [], [.nilFunc]⟩ := ⟨by kernel_rfl⟩
instance T148 : z1d Tryz.prog 148 ⟨1, 8, .func, [], [.nilFunc]⟩ := ⟨by kernel_rfl⟩
instance T149 : z1d Tryz.prog 149 ⟨1, 8, .func, [], [.nilFunc]⟩ := ⟨by kernel_rfl⟩
instance T150 : z1d Tryz.prog 150 ⟨1, 8, .func, [], [.nilFunc]⟩ := ⟨by kernel_rfl⟩
instance T151 : z1d Tryz.prog 151 ⟨1, 4, (.int .u32), [], [.int .u32 0]⟩ := ⟨by kernel_rfl⟩
instance T152 : z1d Tryz.prog 152 ⟨1, 8, .func, [], [.nilFunc]⟩ := ⟨by kernel_rfl⟩
instance T153 : z1d Tryz.prog 153 ⟨1, 8, (.int .u64), [], [.int .u64 0]⟩ := ⟨by kernel_rfl⟩
instance T154 : z1d Tryz.prog 154 ⟨1, 8, .func, [], [.nilFunc]⟩ := ⟨by kernel_rfl⟩
instance T155 : z1d Tryz.prog 155 ⟨1, 8, .func, [], [.nilFunc]⟩ := ⟨by kernel_rfl⟩
instance T156 : z1d Tryz.prog 156 ⟨1, 8, .func, [], [.nilFunc]⟩ := ⟨by kernel_rfl⟩
instance T157 : z1d Tryz.prog 157 ⟨1, 8, .func, [], [.nilFunc]⟩ := ⟨by kernel_rfl⟩
instance T158 : z1d Tryz.prog 158 ⟨1, 8, (.ptr 153), [], [.pointer none]⟩ := ⟨by kernel_rfl⟩
instance T160 : z1d Tryz.prog 160 ⟨1, 8, .func, [], [.nilFunc]⟩ := ⟨by kernel_rfl⟩
instance T161 : z1d Tryz.prog 161 ⟨4, 40, .struct, [(0, 1), (1, 1), (2, 1), (3, 1)], [.pointer none, .pointer none, .pointer none, .string ⟨#[]⟩]⟩ := ⟨by kernel_rfl⟩
instance T162 : z1d Tryz.prog 162 ⟨4, 40, .struct, [(0, 1), (1, 1), (2, 1), (3, 1)], [.pointer none, .pointer none, .pointer none, .string ⟨#[]⟩]⟩ := ⟨by kernel_rfl⟩
instance T163 : z1d Tryz.prog 163 ⟨0, 0, (.array 0 16), [], []⟩ := ⟨by kernel_rfl⟩
instance T164 : z1d Tryz.prog 164 ⟨0, 0, .struct, [(0, 0)], []⟩ := ⟨by kernel_rfl⟩
instance T165 : z1d Tryz.prog 165 ⟨0, 0, .struct, [(0, 0)], []⟩ := ⟨by kernel_rfl⟩
instance T166 : z1d Tryz.prog 166 ⟨1, 1, (.int .u8), [], [.int .u8 0]⟩ := ⟨by kernel_rfl⟩
instance T167 : z1d Tryz.prog 167 ⟨1, 1, (.int .u8), [], [.int .u8 0]⟩ := ⟨by kernel_rfl⟩
instance T168 : z1d Tryz.prog 168 ⟨1, 8, .func, [], [.nilFunc]⟩ := ⟨by kernel_rfl⟩
instance T169 : z1d Tryz.prog 169 ⟨1, 4, (.int .i32), [], [.int .i32 0]⟩ := ⟨by kernel_rfl⟩
instance T170 : z1d Tryz.prog 170 ⟨1, 4, (.int .i32), [], [.int .i32 0]⟩ := ⟨by kernel_rfl⟩
instance T171 : z1d Tryz.prog 171 ⟨11, 48, .struct, [(0, 1), (1, 1), (2, 1), (3, 1), (4, 1), (5, 1), (6, 1), (7, 1), (8, 1), (9, 1), (10, 1)], [.int .u64 0, .int .u64 0, .int .u32 0, .int .u8 0, .int .u8 0, .int .u8 0, .int .u8 0, .nilFunc, .pointer none, .int .i32 0, .int .i32 0]⟩ := ⟨by kernel_rfl⟩
instance T172 : z1d Tryz.prog 172 ⟨11, 48, .struct, [(0, 1), (1, 1), (2, 1), (3, 1), (4, 1), (5, 1), (6, 1), (7, 1), (8, 1), (9, 1), (10, 1)], [.int .u64 0, .int .u64 0, .int .u32 0, .int .u8 0, .int .u8 0, .int .u8 0, .int .u8 0, .nilFunc, .pointer none, .int .i32 0, .int .i32 0]⟩ := ⟨by kernel_rfl⟩
end Go.Proofs.YtjmbjgecfpggdaaGreatDoor
namespace Go.Proofs.YtjmbjgecfpggdaaGreatDoor
open Go.Ab Go.Rx
abbrev za9 (x : Int) : D := .lit (.int .i64 x)
abbrev zt6 (b : Bool) : D := .lit (.bool b)
abbrev zru (x : Int) : D := .lit (.int .u64 x)
abbrev zuh (x : Int) : D := .lit (.int .i32 x)
theorem mix : Tryz.prog.follows .mixedOrders = true := by kernel_rfl
theorem drop_cons {α : Type} {l : List α} {k : Nat} {x : α} (h : l[k]? = some x) : l.drop k = x :: l.drop (k + 1) := by
 obtain ⟨h1, h2⟩ := List.getElem?_eq_some_iff.1 h
 rw [List.drop_eq_getElem_cons h1, h2]
theorem getD_some {α : Type} {l : List α} {i : Nat} {x y : α} (h : l[i]? = some x) : l.getD i y = x := by simp [List.getD, h]
theorem z4r {α : Type} {l : List α} {k : Nat} {x : α} (h : l[k]? = some x) : l.take (k + 1) = l.take k ++ [x] := by
 rw [List.take_add_one, h]; rfl
theorem za5 {x : Int} (h1 : -2147483648 ≤ x) (h2 : x ≤ 2147483647) : IntKind.i32.wrap x = x := by
 simp [IntKind.wrap, IntKind.bits, IntKind.signed]; omega
/-- ranges and expressions as data -/
abbrev rgc (r : Rg) : List D := [zuh r.1, zuh r.2]
abbrev rgs (l : List Rg) : D := .slice (l.map rgc)
mutual
def rxc : Rx → List D
 | .mk op mn mx rs ks => [za9 op, za9 mn, za9 mx, rgs rs, .slice (rxL ks)]
def rxL : List Rx → List (List D)
 | [] => []
 | k :: ks => rxc k :: rxL ks
end
theorem zk7 : ∀ l : List Rx, rxL l = l.map rxc
 | [] => rfl
 | k :: ks => by rw [rxL, zk7 ks]; rfl
theorem z2j (op mn mx : Int) (rs : List Rg) (ks : List Rx) : rxc (.mk op mn mx rs ks) = [za9 op, za9 mn, za9 mx, rgs rs, .slice (ks.map rxc)] := by rw [rxc, zk7]
theorem z5d (e : Rx) : (rxc e).length = 5 := by obtain ⟨op, mn, mx, rs, ks⟩ := e; rw [z2j]; rfl
abbrev Drx (e : Rx) : D := .agg (rxc e)
/-- an expression's cells, the kids as they are -/
abbrev rx5 (op mn mx : Int) (rs : List Rg) (ks : List Rx) : List D := [za9 op, za9 mn, za9 mx, rgs rs, .slice (ks.map rxc)]
theorem z3l {ks : List Rx} {i : Nat} {op mn mx : Int} {rs : List Rg} {kk : List Rx} (h : ks[i]? = some (.mk op mn mx rs kk)) : (ks.map rxc)[((i : Nat) : Int).toNat]? = some (rx5 op mn mx rs kk) := by
 rw [← show rxc (.mk op mn mx rs kk) = rx5 op mn mx rs kk from z2j op mn mx rs kk]; exact idx h
mutual
/-- the lists of an expression have lengths that Go has -/
def fit : Rx → Prop
 | .mk _ _ _ rs ks => rs.length ≤ 9223372036854775807 ∧ ks.length ≤ 9223372036854775807 ∧ zcv ks
def zcv : List Rx → Prop
 | [] => True
 | k :: ks => fit k ∧ zcv ks
end
theorem z3o : ∀ {l : List Rx}, zcv l → ∀ k ∈ l, fit k
 | [], _, k, hk => by simp at hk
 | x :: l, h, k, hk => by
  rw [zcv] at h
  rw [List.mem_cons] at hk
  rcases hk with rfl | hk
  · exact h.1
  · exact z3o h.2 k hk
end Go.Proofs.YtjmbjgecfpggdaaGreatDoor
