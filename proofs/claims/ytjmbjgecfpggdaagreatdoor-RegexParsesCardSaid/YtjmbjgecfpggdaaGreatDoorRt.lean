/- A part of the proof: Types, Defs. -/
import Derived.Test.YtjmbjgecfpggdaaGreatDoorRa
import Derived.Test.YtjmbjgecfpggdaaGreatDoorProg
import Derived.Test.YtjmbjgecfpggdaaGreatDoorRc
import Derived.Test.YtjmbjgecfpggdaaGreatDoorRx
set_option linter.all false
set_option linter.unusedVariables false
set_option linter.unusedSimpArgs false
namespace Go.Proofs.YtjmbjgecfpggdaaGreatDoor
open Go.Ab
instance T1 : z1g Tryz.prog 1 ⟨1, 8, .func, [], [.nilFunc]⟩ := ⟨by kernel_rfl⟩
instance T2 : z1g Tryz.prog 2 ⟨1, 8, (.int .i64), [], [.int .i64 0]⟩ := ⟨by kernel_rfl⟩
instance T3 : z1g Tryz.prog 3 ⟨1, 8, (.int .i64), [], [.int .i64 0]⟩ := ⟨by kernel_rfl⟩
instance T4 : z1g Tryz.prog 4 ⟨1, 1, .bool, [], [.bool false]⟩ := ⟨by kernel_rfl⟩
instance T5 : z1g Tryz.prog 5 ⟨1, 1, (.int .u8), [], [.int .u8 0]⟩ := ⟨by kernel_rfl⟩
instance T6 : z1g Tryz.prog 6 ⟨1, 1, (.int .u8), [], [.int .u8 0]⟩ := ⟨by kernel_rfl⟩
instance T7 : z1g Tryz.prog 7 ⟨4, 24, .struct, [(0, 1), (1, 1), (2, 1), (3, 1)], [.int .i64 0, .int .i64 0, .bool false, .int .u8 0]⟩ := ⟨by kernel_rfl⟩
instance T8 : z1g Tryz.prog 8 ⟨4, 24, .struct, [(0, 1), (1, 1), (2, 1), (3, 1)], [.int .i64 0, .int .i64 0, .bool false, .int .u8 0]⟩ := ⟨by kernel_rfl⟩
instance T9 : z1g Tryz.prog 9 ⟨1, 16, .str, [], [.string ⟨#[]⟩]⟩ := ⟨by kernel_rfl⟩
instance T10 : z1g Tryz.prog 10 ⟨1, 16, .str, [], [.string ⟨#[]⟩]⟩ := ⟨by kernel_rfl⟩
instance T11 : z1g Tryz.prog 11 ⟨1, 16, .str, [], [.string ⟨#[]⟩]⟩ := ⟨by kernel_rfl⟩
instance T12 : z1g Tryz.prog 12 ⟨1, 8, (.int .u64), [], [.int .u64 0]⟩ := ⟨by kernel_rfl⟩
instance T13 : z1g Tryz.prog 13 ⟨2, 24, .struct, [(0, 1), (1, 1)], [.string ⟨#[]⟩, .int .u64 0]⟩ := ⟨by kernel_rfl⟩
instance T14 : z1g Tryz.prog 14 ⟨2, 24, .struct, [(0, 1), (1, 1)], [.string ⟨#[]⟩, .int .u64 0]⟩ := ⟨by kernel_rfl⟩
instance T15 : z1g Tryz.prog 15 ⟨1, 8, (.ptr 162), [], [.pointer none]⟩ := ⟨by kernel_rfl⟩
instance T16 : z1g Tryz.prog 16 ⟨1, 8, (.ptr 165), [], [.pointer none]⟩ := ⟨by kernel_rfl⟩
instance T17 : z1g Tryz.prog 17 ⟨1, 8, (.ptr 172), [], [.pointer none]⟩ := ⟨by kernel_rfl⟩
instance T18 : z1g Tryz.prog 18 ⟨1, 8, .struct, [(0, 1)], [.pointer none]⟩ := ⟨by kernel_rfl⟩
instance T19 : z1g Tryz.prog 19 ⟨1, 8, .struct, [(0, 1)], [.pointer none]⟩ := ⟨by kernel_rfl⟩
instance T20 : z1g Tryz.prog 20 ⟨1, 16, .other, [], [.nilIface]⟩ := ⟨by kernel_rfl⟩
instance T21 : z1g Tryz.prog 21 ⟨1, 4, (.int .i32), [], [.int .i32 0]⟩ := ⟨by kernel_rfl⟩
instance T22 : z1g Tryz.prog 22 ⟨1, 24, (.slice 52), [], [z2o]⟩ := ⟨by kernel_rfl⟩
instance T23 : z1g Tryz.prog 23 ⟨1, 24, (.slice 25), [], [z2o]⟩ := ⟨by kernel_rfl⟩
instance T24 : z1g Tryz.prog 24 ⟨5, 72, .struct, [(0, 1), (1, 1), (2, 1), (3, 1), (4, 1)], [.int .i64 0, .int .i64 0, .int .i64 0, z2o, z2o]⟩ := ⟨by kernel_rfl⟩
instance T25 : z1g Tryz.prog 25 ⟨5, 72, .struct, [(0, 1), (1, 1), (2, 1), (3, 1), (4, 1)], [.int .i64 0, .int .i64 0, .int .i64 0, z2o, z2o]⟩ := ⟨by kernel_rfl⟩
instance T26 : z1g Tryz.prog 26 ⟨1, 8, (.int .i64), [], [.int .i64 0]⟩ := ⟨by kernel_rfl⟩
instance T28 : z1g Tryz.prog 28 ⟨1, 8, .func, [], [.nilFunc]⟩ := ⟨by kernel_rfl⟩
instance T29 : z1g Tryz.prog 29 ⟨1, 8, .func, [], [.nilFunc]⟩ := ⟨by kernel_rfl⟩
instance T30 : z1g Tryz.prog 30 ⟨1, 8, .func, [], [.nilFunc]⟩ := ⟨by kernel_rfl⟩
instance T31 : z1g Tryz.prog 31 ⟨1, 8, .func, [], [.nilFunc]⟩ := ⟨by kernel_rfl⟩
instance T32 : z1g Tryz.prog 32 ⟨1, 8, .func, [], [.nilFunc]⟩ := ⟨by kernel_rfl⟩
instance T33 : z1g Tryz.prog 33 ⟨1, 8, .func, [], [.nilFunc]⟩ := ⟨by kernel_rfl⟩
instance T34 : z1g Tryz.prog 34 ⟨1, 8, .func, [], [.nilFunc]⟩ := ⟨by kernel_rfl⟩
instance T35 : z1g Tryz.prog 35 ⟨1, 8, .func, [], [.nilFunc]⟩ := ⟨by kernel_rfl⟩
instance T37 : z1g Tryz.prog 37 ⟨1, 8, .func, [], [.nilFunc]⟩ := ⟨by kernel_rfl⟩
instance T38 : z1g Tryz.prog 38 ⟨4, 40, .struct, [(0, 1), (1, 1), (2, 1), (3, 1)], [.string ⟨#[]⟩, .int .i64 0, .int .i64 0, .int .i64 0]⟩ := ⟨by kernel_rfl⟩
instance T39 : z1g Tryz.prog 39 ⟨4, 40, .struct, [(0, 1), (1, 1), (2, 1), (3, 1)], [.string ⟨#[]⟩, .int .i64 0, .int .i64 0, .int .i64 0]⟩ := ⟨by kernel_rfl⟩
instance T41 : z1g Tryz.prog 41 ⟨1, 8, .func, [], [.nilFunc]⟩ := ⟨by kernel_rfl⟩
instance T42 : z1g Tryz.prog 42 ⟨1, 8, .func, [], [.nilFunc]⟩ := ⟨by kernel_rfl⟩
instance T43 : z1g Tryz.prog 43 ⟨1, 8, (.ptr 47), [], [.pointer none]⟩ := ⟨by kernel_rfl⟩
instance T44 : z1g Tryz.prog 44 ⟨1, 24, (.slice 49), [], [z2o]⟩ := ⟨by kernel_rfl⟩
instance T45 : z1g Tryz.prog 45 ⟨1, 8, .func, [], [.nilFunc]⟩ := ⟨by kernel_rfl⟩
instance T46 : z1g Tryz.prog 46 ⟨6, 72, .struct, [(0, 1), (1, 1), (2, 1), (3, 1), (4, 1), (5, 1)], [.string ⟨#[]⟩, z2o, .int .i64 0, .int .i64 0, .int .i64 0, .bool false]⟩ := ⟨by kernel_rfl⟩
instance T47 : z1g Tryz.prog 47 ⟨6, 72, .struct, [(0, 1), (1, 1), (2, 1), (3, 1), (4, 1), (5, 1)], [.string ⟨#[]⟩, z2o, .int .i64 0, .int .i64 0, .int .i64 0, .bool false]⟩ := ⟨by kernel_rfl⟩
instance T48 : z1g Tryz.prog 48 ⟨4, 32, .struct, [(0, 1), (1, 1), (2, 1), (3, 1)], [.int .i32 0, .int .i64 0, .int .i64 0, .bool false]⟩ := ⟨by kernel_rfl⟩
instance T49 : z1g Tryz.prog 49 ⟨4, 32, .struct, [(0, 1), (1, 1), (2, 1), (3, 1)], [.int .i32 0, .int .i64 0, .int .i64 0, .bool false]⟩ := ⟨by kernel_rfl⟩
instance T50 : z1g Tryz.prog 50 ⟨1, 8, .func, [], [.nilFunc]⟩ := ⟨by kernel_rfl⟩
instance T51 : z1g Tryz.prog 51 ⟨2, 8, .struct, [(0, 1), (1, 1)], [.int .i32 0, .int .i32 0]⟩ := ⟨by kernel_rfl⟩
instance T52 : z1g Tryz.prog 52 ⟨2, 8, .struct, [(0, 1), (1, 1)], [.int .i32 0, .int .i32 0]⟩ := ⟨by kernel_rfl⟩
instance T53 : z1g Tryz.prog 53 ⟨1, 8, .func, [], [.nilFunc]⟩ := ⟨by kernel_rfl⟩
instance T54 : z1g Tryz.prog 54 ⟨1, 8, .func, [], [.nilFunc]⟩ := ⟨by kernel_rfl⟩
instance T55 : z1g Tryz.prog 55 ⟨1, 8, .func, [], [.nilFunc]⟩ := ⟨by kernel_rfl⟩
instance T56 : z1g Tryz.prog 56 ⟨1, 8, (.ptr 3), [], [.pointer none]⟩ := ⟨by kernel_rfl⟩
instance T58 : z1g Tryz.prog 58 ⟨1, 8, .func, [], [.nilFunc]⟩ := ⟨by kernel_rfl⟩
instance T59 : z1g Tryz.prog 59 ⟨1, 8, .func, [], [.nilFunc]⟩ := ⟨by kernel_rfl⟩
instance T60 : z1g Tryz.prog 60 ⟨1, 8, .func, [], [.nilFunc]⟩ := ⟨by kernel_rfl⟩
instance T61 : z1g Tryz.prog 61 ⟨1, 8, .func, [], [.nilFunc]⟩ := ⟨by kernel_rfl⟩
instance T62 : z1g Tryz.prog 62 ⟨1, 8, .func, [], [.nilFunc]⟩ := ⟨by kernel_rfl⟩
instance T63 : z1g Tryz.prog 63 ⟨3, 24, .struct, [(0, 1), (1, 1), (2, 1)], [.int .i32 0, .int .i64 0, .int .i64 0]⟩ := ⟨by kernel_rfl⟩
instance T64 : z1g Tryz.prog 64 ⟨3, 24, .struct, [(0, 1), (1, 1), (2, 1)], [.int .i32 0, .int .i64 0, .int .i64 0]⟩ := ⟨by kernel_rfl⟩
instance T65 : z1g Tryz.prog 65 ⟨1, 8, (.ptr 39), [], [.pointer none]⟩ := ⟨by kernel_rfl⟩
instance T66 : z1g Tryz.prog 66 ⟨1, 8, .func, [], [.nilFunc]⟩ := ⟨by kernel_rfl⟩
instance T67 : z1g Tryz.prog 67 ⟨1, 8, .func, [], [.nilFunc]⟩ := ⟨by kernel_rfl⟩
instance T68 : z1g Tryz.prog 68 ⟨1, 8, .func, [], [.nilFunc]⟩ := ⟨by kernel_rfl⟩
instance T70 : z1g Tryz.prog 70 ⟨1, 8, .func, [], [.nilFunc]⟩ := ⟨by kernel_rfl⟩
instance T71 : z1g Tryz.prog 71 ⟨1, 8, .func, [], [.nilFunc]⟩ := ⟨by kernel_rfl⟩
instance T72 : z1g Tryz.prog 72 ⟨1, 24, (.slice 21), [], [z2o]⟩ := ⟨by kernel_rfl⟩
instance T73 : z1g Tryz.prog 73 ⟨1, 8, .func, [], [.nilFunc]⟩ := ⟨by kernel_rfl⟩
instance T74 : z1g Tryz.prog 74 ⟨1, 8, .func, [], [.nilFunc]⟩ := ⟨by kernel_rfl⟩
instance T75 : z1g Tryz.prog 75 ⟨1, 8, .func, [], [.nilFunc]⟩ := ⟨by kernel_rfl⟩
instance T76 : z1g Tryz.prog 76 ⟨1, 24, (.slice 9), [], [z2o]⟩ := ⟨by kernel_rfl⟩
instance T77 : z1g Tryz.prog 77 ⟨1, 8, .func, [], [.nilFunc]⟩ := ⟨by kernel_rfl⟩
instance T78 : z1g Tryz.prog 78 ⟨1, 8, .func, [], [.nilFunc]⟩ := ⟨by kernel_rfl⟩
instance T79 : z1g Tryz.prog 79 ⟨1, 8, .func, [], [.nilFunc]⟩ := ⟨by kernel_rfl⟩
instance T80 : z1g Tryz.prog 80 ⟨1, 8, .func, [], [.nilFunc]⟩ := ⟨by kernel_rfl⟩
instance T82 : z1g Tryz.prog 82 ⟨1, 8, .func, [], [.nilFunc]⟩ := ⟨by kernel_rfl⟩
instance T83 : z1g Tryz.prog 83 ⟨1, 8, (.ptr 90), [], [.pointer none]⟩ := ⟨by kernel_rfl⟩
instance T84 : z1g Tryz.prog 84 ⟨1, 8, .func, [], [.nilFunc]⟩ := ⟨by kernel_rfl⟩
instance T85 : z1g Tryz.prog 85 ⟨1, 8, (.int .u64), [], [.int .u64 0]⟩ := ⟨by kernel_rfl⟩
instance T86 : z1g Tryz.prog 86 ⟨1, 8, .func, [], [.nilFunc]⟩ := ⟨by kernel_rfl⟩
instance T87 : z1g Tryz.prog 87 ⟨1, 24, (.slice 22), [], [z2o]⟩ := ⟨by kernel_rfl⟩
instance T88 : z1g Tryz.prog 88 ⟨1, 24, (.slice 85), [], [z2o]⟩ := ⟨by kernel_rfl⟩
instance T89 : z1g Tryz.prog 89 ⟨5, 72, .struct, [(0, 1), (1, 1), (2, 1), (3, 1), (4, 1)], [z2o, .int .u64 0, .int .u64 0, z2o, .bool false]⟩ := ⟨by kernel_rfl⟩
instance T90 : z1g Tryz.prog 90 ⟨5, 72, .struct, [(0, 1), (1, 1), (2, 1), (3, 1), (4, 1)], [z2o, .int .u64 0, .int .u64 0, z2o, .bool false]⟩ := ⟨by kernel_rfl⟩
instance T91 : z1g Tryz.prog 91 ⟨1, 8, .func, [], [.nilFunc]⟩ := ⟨by kernel_rfl⟩
instance T92 : z1g Tryz.prog 92 ⟨1, 8, .func, [], [.nilFunc]⟩ := ⟨by kernel_rfl⟩
instance T93 : z1g Tryz.prog 93 ⟨1, 8, .func, [], [.nilFunc]⟩ := ⟨by kernel_rfl⟩
instance T94 : z1g Tryz.prog 94 ⟨1, 8, (.ptr 97), [], [.pointer none]⟩ := ⟨by kernel_rfl⟩
instance T95 : z1g Tryz.prog 95 ⟨1, 24, (.slice 5), [], [z2o]⟩ := ⟨by kernel_rfl⟩
instance T96 : z1g Tryz.prog 96 ⟨2, 32, .struct, [(0, 1), (1, 1)], [.pointer none, z2o]⟩ := ⟨by kernel_rfl⟩
instance T97 : z1g Tryz.prog 97 ⟨2, 32, .struct, [(0, 1), (1, 1)], [.pointer none, z2o]⟩ := ⟨by kernel_rfl⟩
instance T98 : z1g Tryz.prog 98 ⟨1, 8, .func, [], [.nilFunc]⟩ := ⟨by kernel_rfl⟩
instance T99 : z1g Tryz.prog 99 ⟨1, 16, .other, [], [.nilIface]⟩ := ⟨by kernel_rfl⟩
instance T100 : z1g Tryz.prog 100 ⟨1, 16, .other, [], [.nilIface]⟩ := ⟨by kernel_rfl⟩
instance T102 : z1g Tryz.prog 102 ⟨1, 8, .func, [], [.nilFunc]⟩ := ⟨by kernel_rfl⟩
instance T103 : z1g Tryz.prog 103 ⟨1, 8, .func, [], [.nilFunc]⟩ := ⟨by kernel_rfl⟩
instance T104 : z1g Tryz.prog 104 ⟨1, 8, .func, [], [.nilFunc]⟩ := ⟨by kernel_rfl⟩
instance T105 : z1g Tryz.prog 105 ⟨1, 8, .func, [], [.nilFunc]⟩ := ⟨by kernel_rfl⟩
instance T106 : z1g Tryz.prog 106 ⟨1, 8, .func, [], [.nilFunc]⟩ := ⟨by kernel_rfl⟩
instance T107 : z1g Tryz.prog 107 ⟨3, 24, .struct, [(0, 1), (1, 1), (2, 1)], [.int .u64 0, .int .u64 0, .bool false]⟩ := ⟨by kernel_rfl⟩
instance T108 : z1g Tryz.prog 108 ⟨3, 24, .struct, [(0, 1), (1, 1), (2, 1)], [.int .u64 0, .int .u64 0, .bool false]⟩ := ⟨by kernel_rfl⟩
instance T109 : z1g Tryz.prog 109 ⟨1, 8, .func, [], [.nilFunc]⟩ := ⟨by kernel_rfl⟩
instance T110 : z1g Tryz.prog 110 ⟨1, 8, .func, [], [.nilFunc]⟩ := ⟨by kernel_rfl⟩
instance T111 : z1g Tryz.prog 111 ⟨1, 8, .func, [], [.nilFunc]⟩ := ⟨by kernel_rfl⟩
instance T112 : z1g Tryz.prog 112 ⟨1, 8, (.ptr 5), [], [.pointer none]⟩ := ⟨by kernel_rfl⟩
instance T113 : z1g Tryz.prog 113 ⟨1, 8, .func, [], [.nilFunc]⟩ := ⟨by kernel_rfl⟩
instance T114 : z1g Tryz.prog 114 ⟨1, 8, .func, [], [.nilFunc]⟩ := ⟨by kernel_rfl⟩
instance T116 : z1g Tryz.prog 116 ⟨1, 8, .func, [], [.nilFunc]⟩ := ⟨by kernel_rfl⟩
instance T118 : z1g Tryz.prog 118 ⟨1, 8, .func, [], [.nilFunc]⟩ := ⟨by kernel_rfl⟩
instance T120 : z1g Tryz.prog 120 ⟨1, 8, (.int .u64), [], [.int .u64 0]⟩ := ⟨by kernel_rfl⟩
instance T121 : z1g Tryz.prog 121 ⟨2, 2, .struct, [(0, 1), (1, 1)], [.int .u8 0, .int .u8 0]⟩ := ⟨by kernel_rfl⟩
instance T122 : z1g Tryz.prog 122 ⟨2, 2, .struct, [(0, 1), (1, 1)], [.int .u8 0, .int .u8 0]⟩ := ⟨by kernel_rfl⟩
instance T123 : z1g Tryz.prog 123 ⟨32, 32, (.array 16 122), [], [.int .u8 0, .int .u8 0, .int .u8 0, .int .u8 0, .int .u8 0, .int .u8 0, .int .u8 0, .int .u8 0, .int .u8 0, .int .u8 0, .int .u8 0, .int .u8 0, .int .u8 0, .int .u8 0, .int .u8 0, .int .u8 0, .int .u8 0, .int .u8 0, .int .u8 0, .int .u8 0, .int .u8 0, .int .u8 0, .int .u8 0, .int .u8 0, .int .u8 0, .int .u8 0, .int .u8 0, .int .u8 0, .int .u8 0, .int .u8 0, .int .u8 0, .int .u8 0]⟩ := ⟨by kernel_rfl⟩
instance T124 : z1g Tryz.prog 124 ⟨1, 8, .func, [], [.nilFunc]⟩ := ⟨by kernel_rfl⟩
instance T125 : z1g Tryz.prog 125 ⟨1, 8, .func, [], [.nilFunc]⟩ := ⟨by kernel_rfl⟩
instance T126 : z1g Tryz.prog 126 ⟨1, 8, .func, [], [.nilFunc]⟩ := ⟨by kernel_rfl⟩
instance T127 : z1g Tryz.prog 127 ⟨1, 8, .func, [], [.nilFunc]⟩ := ⟨by kernel_rfl⟩
instance T128 : z1g Tryz.prog 128 ⟨1, 8, .other, [], [.pointer none]⟩ := ⟨by kernel_rfl⟩
instance T129 : z1g Tryz.prog 129 ⟨1, 8, .func, [], [.nilFunc]⟩ := ⟨by kernel_rfl⟩
instance T130 : z1g Tryz.prog 130 ⟨1, 8, .func, [], [.nilFunc]⟩ := ⟨by kernel_rfl⟩
instance T131 : z1g Tryz.prog 131 ⟨1, 8, .func, [], [.nilFunc]⟩ := ⟨by kernel_rfl⟩
instance T132 : z1g Tryz.prog 132 ⟨1, 8, .func, [], [.nilFunc]⟩ := ⟨by kernel_rfl⟩
instance T133 : z1g Tryz.prog 133 ⟨1, 8, .func, [], [.nilFunc]⟩ := ⟨by kernel_rfl⟩
instance T134 : z1g Tryz.prog 134 ⟨1, 8, .func, [], [.nilFunc]⟩ := ⟨by kernel_rfl⟩
instance T135 : z1g Tryz.prog 135 ⟨1, 8, .func, [], [.nilFunc]⟩ := ⟨by kernel_rfl⟩
instance T136 : z1g Tryz.prog 136 ⟨1, 8, .func, [], [.nilFunc]⟩ := ⟨by kernel_rfl⟩
instance T137 : z1g Tryz.prog 137 ⟨1, 8, .func, [], [.nilFunc]⟩ := ⟨by kernel_rfl⟩
instance T138 : z1g Tryz.prog 138 ⟨1, 8, .func, [], [.nilFunc]⟩ := ⟨by kernel_rfl⟩
instance T139 : z1g Tryz.prog 139 ⟨1, 8, .func, [], [.nilFunc]⟩ := ⟨by kernel_rfl⟩
instance T140 : z1g Tryz.prog 140 ⟨1, 8, .func, [], [.nilFunc]⟩ := ⟨by kernel_rfl⟩
instance T141 : z1g Tryz.prog 141 ⟨1, 8, .func, [], [.nilFunc]⟩ := ⟨by kernel_rfl⟩
instance T142 : z1g Tryz.prog 142 ⟨1, 8, .func, [], [.nilFunc]⟩ := ⟨by kernel_rfl⟩
instance T143 : z1g Tryz.prog 143 ⟨1, 8, .func, [], [.nilFunc]⟩ := ⟨by kernel_rfl⟩
instance T144 : z1g Tryz.prog 144 ⟨1, 8, (.int .i64), [], [.int .i64 0]⟩ := ⟨by kernel_rfl⟩
instance T146 : z1g Tryz.prog 146 ⟨1, 8, .func, [], [.nilFunc]⟩ := ⟨by kernel_rfl⟩
instance T147 : z1g Tryz.prog 147 ⟨1, 8, .func, [], [.nilFunc]⟩ := ⟨by kernel_rfl⟩
instance T148 : z1g Tryz.prog 148 ⟨1, 8, .func, [], [.nilFunc]⟩ := ⟨by kernel_rfl⟩
instance T149 : z1g Tryz.prog 149 ⟨1, 8, .func, [], [.nilFunc]⟩ := ⟨by kernel_rfl⟩
instance T150 : z1g Tryz.prog 150 ⟨1, 8, .func, [], [.nilFunc]⟩ := ⟨by kernel_rfl⟩
instance T151 : z1g Tryz.prog 151 ⟨1, 4, (.int .u32), [], [.int .u32 0]⟩ := ⟨by kernel_rfl⟩
instance T152 : z1g Tryz.prog 152 ⟨1, 8, .func, [], [.nilFunc]⟩ := ⟨by kernel_rfl⟩
instance T153 : z1g Tryz.prog 153 ⟨1, 8, (.int .u64), [], [.int .u64 0]⟩ := ⟨by kernel_rfl⟩
instance T154 : z1g Tryz.prog 154 ⟨1, 8, .func, [], [.nilFunc]⟩ := ⟨by kernel_rfl⟩
instance T155 : z1g Tryz.prog 155 ⟨1, 8, .func, [], [.nilFunc]⟩ := ⟨by kernel_rfl⟩
instance T156 : z1g Tryz.prog 156 ⟨1, 8, .func, [], [.nilFunc]⟩ := ⟨by kernel_rfl⟩
instance T157 : z1g Tryz.prog 157 ⟨1, 8, .func, [], [.nilFunc]⟩ := ⟨by kernel_rfl⟩
instance T158 : z1g Tryz.prog 158 ⟨1, 8, (.ptr 153), [], [.pointer none]⟩ := ⟨by kernel_rfl⟩
instance T160 : z1g Tryz.prog 160 ⟨1, 8, .func, [], [.nilFunc]⟩ := ⟨by kernel_rfl⟩
instance T161 : z1g Tryz.prog 161 ⟨4, 40, .struct, [(0, 1), (1, 1), (2, 1), (3, 1)], [.pointer none, .pointer none, .pointer none, .string ⟨#[]⟩]⟩ := ⟨by kernel_rfl⟩
instance T162 : z1g Tryz.prog 162 ⟨4, 40, .struct, [(0, 1), (1, 1), (2, 1), (3, 1)], [.pointer none, .pointer none, .pointer none, .string ⟨#[]⟩]⟩ := ⟨by kernel_rfl⟩
instance T163 : z1g Tryz.prog 163 ⟨0, 0, (.array 0 16), [], []⟩ := ⟨by kernel_rfl⟩
instance T164 : z1g Tryz.prog 164 ⟨0, 0, .struct, [(0, 0)], []⟩ := ⟨by kernel_rfl⟩
instance T165 : z1g Tryz.prog 165 ⟨0, 0, .struct, [(0, 0)], []⟩ := ⟨by kernel_rfl⟩
instance T166 : z1g Tryz.prog 166 ⟨1, 1, (.int .u8), [], [.int .u8 0]⟩ := ⟨by kernel_rfl⟩
instance T167 : z1g Tryz.prog 167 ⟨1, 1, (.int .u8), [], [.int .u8 0]⟩ := ⟨by kernel_rfl⟩
instance T168 : z1g Tryz.prog 168 ⟨1, 8, .func, [], [.nilFunc]⟩ := ⟨by kernel_rfl⟩
instance T169 : z1g Tryz.prog 169 ⟨1, 4, (.int .i32), [], [.int .i32 0]⟩ := ⟨by kernel_rfl⟩
instance T170 : z1g Tryz.prog 170 ⟨1, 4, (.int .i32), [], [.int .i32 0]⟩ := ⟨by kernel_rfl⟩
instance T171 : z1g Tryz.prog 171 ⟨11, 48, .struct, [(0, 1), (1, 1), (2, 1), (3, 1), (4, 1), (5, 1), (6, 1), (7, 1), (8, 1), (9, 1), (10, 1)], [.int .u64 0, .int .u64 0, .int .u32 0, .int .u8 0, .int .u8 0, .int .u8 0, .int .u8 0, .nilFunc, .pointer none, .int .i32 0, .int .i32 0]⟩ := ⟨by kernel_rfl⟩
instance T172 : z1g Tryz.prog 172 ⟨11, 48, .struct, [(0, 1), (1, 1), (2, 1), (3, 1), (4, 1), (5, 1), (6, 1), (7, 1), (8, 1), (9, 1), (10, 1)], [.int .u64 0, .int .u64 0, .int .u32 0, .int .u8 0, .int .u8 0, .int .u8 0, .int .u8 0, .nilFunc, .pointer none, .int .i32 0, .int .i32 0]⟩ := ⟨by kernel_rfl⟩
end Go.Proofs.YtjmbjgecfpggdaaGreatDoor
namespace Go.Proofs.YtjmbjgecfpggdaaGreatDoor
open Go.Ab Go.Rx
abbrev z48 (x : Int) : D := .lit (.int .i64 x)
abbrev zrg (b : Bool) : D := .lit (.bool b)
abbrev zs0 (x : Int) : D := .lit (.int .u64 x)
abbrev zn0 (x : Int) : D := .lit (.int .i32 x)
theorem mix : Tryz.prog.follows .mixedOrders = true := by kernel_rfl
theorem drop_cons {α : Type} {l : List α} {k : Nat} {x : α} (h : l[k]? = some x) : l.drop k = x :: l.drop (k + 1) := by
 obtain ⟨h1, h2⟩ := List.getElem?_eq_some_iff.1 h
 rw [List.drop_eq_getElem_cons h1, h2]
theorem getD_some {α : Type} {l : List α} {i : Nat} {x y : α} (h : l[i]? = some x) : l.getD i y = x := by simp [List.getD, h]
theorem z6g {α : Type} {l : List α} {k : Nat} {x : α} (h : l[k]? = some x) : l.take (k + 1) = l.take k ++ [x] := by
 rw [List.take_add_one, h]; rfl
theorem za2 {x : Int} (h1 : -2147483648 ≤ x) (h2 : x ≤ 2147483647) : IntKind.i32.wrap x = x := by
 simp [IntKind.wrap, IntKind.bits, IntKind.signed]; omega
/-- ranges and expressions as data -/
abbrev rgc (r : Rg) : List D := [zn0 r.1, zn0 r.2]
abbrev rgs (l : List Rg) : D := .slice (l.map rgc)
mutual
def rxc : Rx → List D
 | .mk op mn mx rs ks => [z48 op, z48 mn, z48 mx, rgs rs, .slice (rxL ks)]
def rxL : List Rx → List (List D)
 | [] => []
 | k :: ks => rxc k :: rxL ks
end
theorem zlb : ∀ l : List Rx, rxL l = l.map rxc
 | [] => rfl
 | k :: ks => by rw [rxL, zlb ks]; rfl
theorem z1v (op mn mx : Int) (rs : List Rg) (ks : List Rx) : rxc (.mk op mn mx rs ks) = [z48 op, z48 mn, z48 mx, rgs rs, .slice (ks.map rxc)] := by rw [rxc, zlb]
theorem z2t (e : Rx) : (rxc e).length = 5 := by obtain ⟨op, mn, mx, rs, ks⟩ := e; rw [z1v]; rfl
abbrev Drx (e : Rx) : D := .agg (rxc e)
/-- an expression's cells, the kids as they are -/
abbrev rx5 (op mn mx : Int) (rs : List Rg) (ks : List Rx) : List D := [z48 op, z48 mn, z48 mx, rgs rs, .slice (ks.map rxc)]
theorem z3p {ks : List Rx} {i : Nat} {op mn mx : Int} {rs : List Rg} {kk : List Rx} (h : ks[i]? = some (.mk op mn mx rs kk)) : (ks.map rxc)[((i : Nat) : Int).toNat]? = some (rx5 op mn mx rs kk) := by
 rw [← show rxc (.mk op mn mx rs kk) = rx5 op mn mx rs kk from z1v op mn mx rs kk]; exact idx h
mutual
/-- the lists of an expression have lengths that Go has -/
def fit : Rx → Prop
 | .mk _ _ _ rs ks => rs.length ≤ 9223372036854775807 ∧ ks.length ≤ 9223372036854775807 ∧ zgv ks
def zgv : List Rx → Prop
 | [] => True
 | k :: ks => fit k ∧ zgv ks
end
theorem z5z : ∀ {l : List Rx}, zgv l → ∀ k ∈ l, fit k
 | [], _, k, hk => by simp at hk
 | x :: l, h, k, hk => by
  rw [zgv] at h
  rw [List.mem_cons] at hk
  rcases hk with rfl | hk
  · exact h.1
  · exact z5z h.2 k hk
end Go.Proofs.YtjmbjgecfpggdaaGreatDoor
