/- A part of the proof: Types, Defs. -/
import Derived.Test.YtjmbjgecfpggdaaDoorRa
import Derived.Test.YtjmbjgecfpggdaaDoorProg
import Derived.Test.YtjmbjgecfpggdaaDoorRc
import Derived.Test.YtjmbjgecfpggdaaDoorRx
set_option linter.all false
set_option linter.unusedVariables false
set_option linter.unusedSimpArgs false
namespace Go.Proofs.YtjmbjgecfpggdaaDoor
open Go.Ab
instance T1 : HasT Tryd.prog 1 ⟨1, 8, .func, [], [.nilFunc]⟩ := ⟨by kernel_rfl⟩
instance T2 : HasT Tryd.prog 2 ⟨1, 8, (.int .i64), [], [.int .i64 0]⟩ := ⟨by kernel_rfl⟩
instance T3 : HasT Tryd.prog 3 ⟨1, 8, (.int .i64), [], [.int .i64 0]⟩ := ⟨by kernel_rfl⟩
instance T4 : HasT Tryd.prog 4 ⟨1, 1, .bool, [], [.bool false]⟩ := ⟨by kernel_rfl⟩
instance T5 : HasT Tryd.prog 5 ⟨1, 1, (.int .u8), [], [.int .u8 0]⟩ := ⟨by kernel_rfl⟩
instance T6 : HasT Tryd.prog 6 ⟨1, 1, (.int .u8), [], [.int .u8 0]⟩ := ⟨by kernel_rfl⟩
instance T7 : HasT Tryd.prog 7 ⟨4, 24, .struct, [(0, 1), (1, 1), (2, 1), (3, 1)], [.int .i64 0, .int .i64 0, .bool false, .int .u8 0]⟩ := ⟨by kernel_rfl⟩
instance T8 : HasT Tryd.prog 8 ⟨4, 24, .struct, [(0, 1), (1, 1), (2, 1), (3, 1)], [.int .i64 0, .int .i64 0, .bool false, .int .u8 0]⟩ := ⟨by kernel_rfl⟩
instance T9 : HasT Tryd.prog 9 ⟨1, 16, .str, [], [.string ⟨#[]⟩]⟩ := ⟨by kernel_rfl⟩
instance T10 : HasT Tryd.prog 10 ⟨1, 16, .str, [], [.string ⟨#[]⟩]⟩ := ⟨by kernel_rfl⟩
instance T11 : HasT Tryd.prog 11 ⟨1, 16, .str, [], [.string ⟨#[]⟩]⟩ := ⟨by kernel_rfl⟩
instance T12 : HasT Tryd.prog 12 ⟨1, 8, (.int .u64), [], [.int .u64 0]⟩ := ⟨by kernel_rfl⟩
instance T13 : HasT Tryd.prog 13 ⟨2, 24, .struct, [(0, 1), (1, 1)], [.string ⟨#[]⟩, .int .u64 0]⟩ := ⟨by kernel_rfl⟩
instance T14 : HasT Tryd.prog 14 ⟨2, 24, .struct, [(0, 1), (1, 1)], [.string ⟨#[]⟩, .int .u64 0]⟩ := ⟨by kernel_rfl⟩
instance T15 : HasT Tryd.prog 15 ⟨1, 8, (.ptr 156), [], [.pointer none]⟩ := ⟨by kernel_rfl⟩
instance T16 : HasT Tryd.prog 16 ⟨1, 8, (.ptr 159), [], [.pointer none]⟩ := ⟨by kernel_rfl⟩
instance T17 : HasT Tryd.prog 17 ⟨1, 8, (.ptr 167), [], [.pointer none]⟩ := ⟨by kernel_rfl⟩
instance T18 : HasT Tryd.prog 18 ⟨1, 8, .struct, [(0, 1)], [.pointer none]⟩ := ⟨by kernel_rfl⟩
instance T19 : HasT Tryd.prog 19 ⟨1, 8, .struct, [(0, 1)], [.pointer none]⟩ := ⟨by kernel_rfl⟩
instance T20 : HasT Tryd.prog 20 ⟨1, 16, .other, [], [.nilIface]⟩ := ⟨by kernel_rfl⟩
instance T21 : HasT Tryd.prog 21 ⟨1, 4, (.int .i32), [], [.int .i32 0]⟩ := ⟨by kernel_rfl⟩
instance T22 : HasT Tryd.prog 22 ⟨1, 24, (.slice 71), [], [nilS]⟩ := ⟨by kernel_rfl⟩
instance T23 : HasT Tryd.prog 23 ⟨1, 24, (.slice 25), [], [nilS]⟩ := ⟨by kernel_rfl⟩
instance T24 : HasT Tryd.prog 24 ⟨5, 72, .struct, [(0, 1), (1, 1), (2, 1), (3, 1), (4, 1)], [.int .i64 0, .int .i64 0, .int .i64 0, nilS, nilS]⟩ := ⟨by kernel_rfl⟩
instance T25 : HasT Tryd.prog 25 ⟨5, 72, .struct, [(0, 1), (1, 1), (2, 1), (3, 1), (4, 1)], [.int .i64 0, .int .i64 0, .int .i64 0, nilS, nilS]⟩ := ⟨by kernel_rfl⟩
instance T26 : HasT Tryd.prog 26 ⟨1, 8, .func, [], [.nilFunc]⟩ := ⟨by kernel_rfl⟩
instance T27 : HasT Tryd.prog 27 ⟨1, 8, (.int .i64), [], [.int .i64 0]⟩ := ⟨by kernel_rfl⟩
instance T28 : HasT Tryd.prog 28 ⟨1, 8, .func, [], [.nilFunc]⟩ := ⟨by kernel_rfl⟩
instance T29 : HasT Tryd.prog 29 ⟨1, 8, .func, [], [.nilFunc]⟩ := ⟨by kernel_rfl⟩
instance T30 : HasT Tryd.prog 30 ⟨1, 8, .func, [], [.nilFunc]⟩ := ⟨by kernel_rfl⟩
instance T31 : HasT Tryd.prog 31 ⟨1, 8, .func, [], [.nilFunc]⟩ := ⟨by kernel_rfl⟩
instance T33 : HasT Tryd.prog 33 ⟨1, 8, .func, [], [.nilFunc]⟩ := ⟨by kernel_rfl⟩
instance T34 : HasT Tryd.prog 34 ⟨1, 8, .func, [], [.nilFunc]⟩ := ⟨by kernel_rfl⟩
instance T35 : HasT Tryd.prog 35 ⟨1, 8, .func, [], [.nilFunc]⟩ := ⟨by kernel_rfl⟩
instance T36 : HasT Tryd.prog 36 ⟨1, 8, .func, [], [.nilFunc]⟩ := ⟨by kernel_rfl⟩
instance T37 : HasT Tryd.prog 37 ⟨1, 8, .func, [], [.nilFunc]⟩ := ⟨by kernel_rfl⟩
instance T38 : HasT Tryd.prog 38 ⟨1, 8, .func, [], [.nilFunc]⟩ := ⟨by kernel_rfl⟩
instance T40 : HasT Tryd.prog 40 ⟨1, 8, .func, [], [.nilFunc]⟩ := ⟨by kernel_rfl⟩
instance T41 : HasT Tryd.prog 41 ⟨1, 8, .func, [], [.nilFunc]⟩ := ⟨by kernel_rfl⟩
instance T42 : HasT Tryd.prog 42 ⟨1, 8, .func, [], [.nilFunc]⟩ := ⟨by kernel_rfl⟩
instance T43 : HasT Tryd.prog 43 ⟨1, 8, .func, [], [.nilFunc]⟩ := ⟨by kernel_rfl⟩
instance T44 : HasT Tryd.prog 44 ⟨1, 8, .func, [], [.nilFunc]⟩ := ⟨by kernel_rfl⟩
instance T45 : HasT Tryd.prog 45 ⟨1, 8, (.ptr 3), [], [.pointer none]⟩ := ⟨by kernel_rfl⟩
instance T46 : HasT Tryd.prog 46 ⟨1, 8, .func, [], [.nilFunc]⟩ := ⟨by kernel_rfl⟩
instance T47 : HasT Tryd.prog 47 ⟨1, 8, .func, [], [.nilFunc]⟩ := ⟨by kernel_rfl⟩
instance T49 : HasT Tryd.prog 49 ⟨1, 8, .func, [], [.nilFunc]⟩ := ⟨by kernel_rfl⟩
instance T50 : HasT Tryd.prog 50 ⟨1, 24, (.slice 53), [], [nilS]⟩ := ⟨by kernel_rfl⟩
instance T51 : HasT Tryd.prog 51 ⟨1, 8, .func, [], [.nilFunc]⟩ := ⟨by kernel_rfl⟩
instance T52 : HasT Tryd.prog 52 ⟨4, 32, .struct, [(0, 1), (1, 1), (2, 1), (3, 1)], [.int .i32 0, .int .i64 0, .int .i64 0, .bool false]⟩ := ⟨by kernel_rfl⟩
instance T53 : HasT Tryd.prog 53 ⟨4, 32, .struct, [(0, 1), (1, 1), (2, 1), (3, 1)], [.int .i32 0, .int .i64 0, .int .i64 0, .bool false]⟩ := ⟨by kernel_rfl⟩
instance T54 : HasT Tryd.prog 54 ⟨4, 40, .struct, [(0, 1), (1, 1), (2, 1), (3, 1)], [.string ⟨#[]⟩, .int .i64 0, .int .i64 0, .int .i64 0]⟩ := ⟨by kernel_rfl⟩
instance T55 : HasT Tryd.prog 55 ⟨4, 40, .struct, [(0, 1), (1, 1), (2, 1), (3, 1)], [.string ⟨#[]⟩, .int .i64 0, .int .i64 0, .int .i64 0]⟩ := ⟨by kernel_rfl⟩
instance T57 : HasT Tryd.prog 57 ⟨1, 8, .func, [], [.nilFunc]⟩ := ⟨by kernel_rfl⟩
instance T58 : HasT Tryd.prog 58 ⟨1, 8, .func, [], [.nilFunc]⟩ := ⟨by kernel_rfl⟩
instance T59 : HasT Tryd.prog 59 ⟨1, 8, .func, [], [.nilFunc]⟩ := ⟨by kernel_rfl⟩
instance T60 : HasT Tryd.prog 60 ⟨1, 8, .func, [], [.nilFunc]⟩ := ⟨by kernel_rfl⟩
instance T61 : HasT Tryd.prog 61 ⟨1, 24, (.slice 21), [], [nilS]⟩ := ⟨by kernel_rfl⟩
instance T62 : HasT Tryd.prog 62 ⟨1, 24, (.slice 5), [], [nilS]⟩ := ⟨by kernel_rfl⟩
instance T63 : HasT Tryd.prog 63 ⟨1, 8, .func, [], [.nilFunc]⟩ := ⟨by kernel_rfl⟩
instance T64 : HasT Tryd.prog 64 ⟨1, 8, .func, [], [.nilFunc]⟩ := ⟨by kernel_rfl⟩
instance T65 : HasT Tryd.prog 65 ⟨3, 24, .struct, [(0, 1), (1, 1), (2, 1)], [.int .i32 0, .int .i64 0, .int .i64 0]⟩ := ⟨by kernel_rfl⟩
instance T66 : HasT Tryd.prog 66 ⟨3, 24, .struct, [(0, 1), (1, 1), (2, 1)], [.int .i32 0, .int .i64 0, .int .i64 0]⟩ := ⟨by kernel_rfl⟩
instance T67 : HasT Tryd.prog 67 ⟨1, 8, .func, [], [.nilFunc]⟩ := ⟨by kernel_rfl⟩
instance T69 : HasT Tryd.prog 69 ⟨1, 8, .func, [], [.nilFunc]⟩ := ⟨by kernel_rfl⟩
instance T70 : HasT Tryd.prog 70 ⟨2, 8, .struct, [(0, 1), (1, 1)], [.int .i32 0, .int .i32 0]⟩ := ⟨by kernel_rfl⟩
instance T71 : HasT Tryd.prog 71 ⟨2, 8, .struct, [(0, 1), (1, 1)], [.int .i32 0, .int .i32 0]⟩ := ⟨by kernel_rfl⟩
instance T72 : HasT Tryd.prog 72 ⟨1, 8, .func, [], [.nilFunc]⟩ := ⟨by kernel_rfl⟩
instance T73 : HasT Tryd.prog 73 ⟨1, 8, (.ptr 55), [], [.pointer none]⟩ := ⟨by kernel_rfl⟩
instance T74 : HasT Tryd.prog 74 ⟨1, 8, .func, [], [.nilFunc]⟩ := ⟨by kernel_rfl⟩
instance T75 : HasT Tryd.prog 75 ⟨1, 8, (.ptr 82), [], [.pointer none]⟩ := ⟨by kernel_rfl⟩
instance T76 : HasT Tryd.prog 76 ⟨1, 8, .func, [], [.nilFunc]⟩ := ⟨by kernel_rfl⟩
instance T77 : HasT Tryd.prog 77 ⟨1, 8, (.int .u64), [], [.int .u64 0]⟩ := ⟨by kernel_rfl⟩
instance T78 : HasT Tryd.prog 78 ⟨1, 8, .func, [], [.nilFunc]⟩ := ⟨by kernel_rfl⟩
instance T79 : HasT Tryd.prog 79 ⟨1, 24, (.slice 22), [], [nilS]⟩ := ⟨by kernel_rfl⟩
instance T80 : HasT Tryd.prog 80 ⟨1, 24, (.slice 77), [], [nilS]⟩ := ⟨by kernel_rfl⟩
instance T81 : HasT Tryd.prog 81 ⟨5, 72, .struct, [(0, 1), (1, 1), (2, 1), (3, 1), (4, 1)], [nilS, .int .u64 0, .int .u64 0, nilS, .bool false]⟩ := ⟨by kernel_rfl⟩
instance T82 : HasT Tryd.prog 82 ⟨5, 72, .struct, [(0, 1), (1, 1), (2, 1), (3, 1), (4, 1)], [nilS, .int .u64 0, .int .u64 0, nilS, .bool false]⟩ := ⟨by kernel_rfl⟩
instance T83 : HasT Tryd.prog 83 ⟨1, 8, .func, [], [.nilFunc]⟩ := ⟨by kernel_rfl⟩
instance T84 : HasT Tryd.prog 84 ⟨1, 8, .func, [], [.nilFunc]⟩ := ⟨by kernel_rfl⟩
instance T85 : HasT Tryd.prog 85 ⟨1, 8, .func, [], [.nilFunc]⟩ := ⟨by kernel_rfl⟩
instance T86 : HasT Tryd.prog 86 ⟨1, 24, (.slice 9), [], [nilS]⟩ := ⟨by kernel_rfl⟩
instance T87 : HasT Tryd.prog 87 ⟨1, 8, .func, [], [.nilFunc]⟩ := ⟨by kernel_rfl⟩
instance T88 : HasT Tryd.prog 88 ⟨1, 8, .func, [], [.nilFunc]⟩ := ⟨by kernel_rfl⟩
instance T90 : HasT Tryd.prog 90 ⟨1, 8, .func, [], [.nilFunc]⟩ := ⟨by kernel_rfl⟩
instance T91 : HasT Tryd.prog 91 ⟨3, 24, .struct, [(0, 1), (1, 1), (2, 1)], [.int .u64 0, .int .u64 0, .bool false]⟩ := ⟨by kernel_rfl⟩
instance T92 : HasT Tryd.prog 92 ⟨3, 24, .struct, [(0, 1), (1, 1), (2, 1)], [.int .u64 0, .int .u64 0, .bool false]⟩ := ⟨by kernel_rfl⟩
instance T93 : HasT Tryd.prog 93 ⟨1, 8, .func, [], [.nilFunc]⟩ := ⟨by kernel_rfl⟩
instance T94 : HasT Tryd.prog 94 ⟨1, 8, .func, [], [.nilFunc]⟩ := ⟨by kernel_rfl⟩
instance T95 : HasT Tryd.prog 95 ⟨1, 8, (.ptr 97), [], [.pointer none]⟩ := ⟨by kernel_rfl⟩
instance T96 : HasT Tryd.prog 96 ⟨2, 32, .struct, [(0, 1), (1, 1)], [.pointer none, nilS]⟩ := ⟨by kernel_rfl⟩
instance T97 : HasT Tryd.prog 97 ⟨2, 32, .struct, [(0, 1), (1, 1)], [.pointer none, nilS]⟩ := ⟨by kernel_rfl⟩
instance T98 : HasT Tryd.prog 98 ⟨1, 8, .func, [], [.nilFunc]⟩ := ⟨by kernel_rfl⟩
instance T99 : HasT Tryd.prog 99 ⟨1, 16, .other, [], [.nilIface]⟩ := ⟨by kernel_rfl⟩
instance T100 : HasT Tryd.prog 100 ⟨1, 16, .other, [], [.nilIface]⟩ := ⟨by kernel_rfl⟩
instance T102 : HasT Tryd.prog 102 ⟨1, 8, .func, [], [.nilFunc]⟩ := ⟨by kernel_rfl⟩
instance T103 : HasT Tryd.prog 103 ⟨1, 8, .func, [], [.nilFunc]⟩ := ⟨by kernel_rfl⟩
instance T104 : HasT Tryd.prog 104 ⟨1, 8, .func, [], [.nilFunc]⟩ := ⟨by kernel_rfl⟩
instance T105 : HasT Tryd.prog 105 ⟨1, 8, .func, [], [.nilFunc]⟩ := ⟨by kernel_rfl⟩
instance T106 : HasT Tryd.prog 106 ⟨1, 8, .func, [], [.nilFunc]⟩ := ⟨by kernel_rfl⟩
instance T107 : HasT Tryd.prog 107 ⟨1, 8, .func, [], [.nilFunc]⟩ := ⟨by kernel_rfl⟩
instance T108 : HasT Tryd.prog 108 ⟨1, 8, .func, [], [.nilFunc]⟩ := ⟨by kernel_rfl⟩
instance T109 : HasT Tryd.prog 109 ⟨1, 8, (.ptr 5), [], [.pointer none]⟩ := ⟨by kernel_rfl⟩
instance T110 : HasT Tryd.prog 110 ⟨1, 8, .func, [], [.nilFunc]⟩ := ⟨by kernel_rfl⟩
instance T111 : HasT Tryd.prog 111 ⟨1, 8, .func, [], [.nilFunc]⟩ := ⟨by kernel_rfl⟩
instance T113 : HasT Tryd.prog 113 ⟨1, 8, .func, [], [.nilFunc]⟩ := ⟨by kernel_rfl⟩
instance T115 : HasT Tryd.prog 115 ⟨1, 8, .func, [], [.nilFunc]⟩ := ⟨by kernel_rfl⟩
instance T117 : HasT Tryd.prog 117 ⟨1, 8, (.int .u64), [], [.int .u64 0]⟩ := ⟨by kernel_rfl⟩
instance T118 : HasT Tryd.prog 118 ⟨2, 2, .struct, [(0, 1), (1, 1)], [.int .u8 0, .int .u8 0]⟩ := ⟨by kernel_rfl⟩
instance T119 : HasT Tryd.prog 119 ⟨2, 2, .struct, [(0, 1), (1, 1)], [.int .u8 0, .int .u8 0]⟩ := ⟨by kernel_rfl⟩
instance T120 : HasT Tryd.prog 120 ⟨32, 32, (.array 16 119), [], [.int .u8 0, .int .u8 0, .int .u8 0, .int .u8 0, .int .u8 0, .int .u8 0, .int .u8 0, .int .u8 0, .int .u8 0, .int .u8 0, .int .u8 0, .int .u8 0, .int .u8 0, .int .u8 0, .int .u8 0, .int .u8 0, .int .u8 0, .int .u8 0, .int .u8 0, .int .u8 0, .int .u8 0, .int .u8 0, .int .u8 0, .int .u8 0, .int .u8 0, .int .u8 0, .int .u8 0, .int .u8 0, .int .u8 0, .int .u8 0, .int .u8 0, .int .u8 0]⟩ := ⟨by kernel_rfl⟩
instance T121 : HasT Tryd.prog 121 ⟨1, 8, .func, [], [.nilFunc]⟩ := ⟨by kernel_rfl⟩
instance T122 : HasT Tryd.prog 122 ⟨1, 8, .func, [], [.nilFunc]⟩ := ⟨by kernel_rfl⟩
instance T123 : HasT Tryd.prog 123 ⟨1, 8, .func, [], [.nilFunc]⟩ := ⟨by kernel_rfl⟩
instance T124 : HasT Tryd.prog 124 ⟨1, 8, .other, [], [.pointer none]⟩ := ⟨by kernel_rfl⟩
instance T125 : HasT Tryd.prog 125 ⟨1, 8, .func, [], [.nilFunc]⟩ := ⟨by kernel_rfl⟩
instance T126 : HasT Tryd.prog 126 ⟨1, 8, .func, [], [.nilFunc]⟩ := ⟨by kernel_rfl⟩
instance T127 : HasT Tryd.prog 127 ⟨1, 8, .func, [], [.nilFunc]⟩ := ⟨by kernel_rfl⟩
instance T128 : HasT Tryd.prog 128 ⟨1, 8, .func, [], [.nilFunc]⟩ := ⟨by kernel_rfl⟩
instance T129 : HasT Tryd.prog 129 ⟨1, 8, .func, [], [.nilFunc]⟩ := ⟨by kernel_rfl⟩
instance T130 : HasT Tryd.prog 130 ⟨1, 8, .func, [], [.nilFunc]⟩ := ⟨by kernel_rfl⟩
instance T131 : HasT Tryd.prog 131 ⟨1, 8, .func, [], [.nilFunc]⟩ := ⟨by kernel_rfl⟩
instance T132 : HasT Tryd.prog 132 ⟨1, 8, .func, [], [.nilFunc]⟩ := ⟨by kernel_rfl⟩
instance T133 : HasT Tryd.prog 133 ⟨1, 8, .func, [], [.nilFunc]⟩ := ⟨by kernel_rfl⟩
instance T134 : HasT Tryd.prog 134 ⟨1, 8, .func, [], [.nilFunc]⟩ := ⟨by kernel_rfl⟩
instance T135 : HasT Tryd.prog 135 ⟨1, 8, .func, [], [.nilFunc]⟩ := ⟨by kernel_rfl⟩
instance T136 : HasT Tryd.prog 136 ⟨1, 8, .func, [], [.nilFunc]⟩ := ⟨by kernel_rfl⟩
instance T137 : HasT Tryd.prog 137 ⟨1, 8, .func, [], [.nilFunc]⟩ := ⟨by kernel_rfl⟩
instance T138 : HasT Tryd.prog 138 ⟨1, 8, (.int .i64), [], [.int .i64 0]⟩ := ⟨by kernel_rfl⟩
instance T140 : HasT Tryd.prog 140 ⟨1, 8, .func, [], [.nilFunc]⟩ := ⟨by kernel_rfl⟩
instance T141 : HasT Tryd.prog 141 ⟨1, 8, .func, [], [.nilFunc]⟩ := ⟨by kernel_rfl⟩
instance T142 : HasT Tryd.prog 142 ⟨1, 8, .func, [], [.nilFunc]⟩ := ⟨by kernel_rfl⟩
instance T143 : HasT Tryd.prog 143 ⟨1, 8, .func, [], [.nilFunc]⟩ := ⟨by kernel_rfl⟩
instance T144 : HasT Tryd.prog 144 ⟨1, 8, .func, [], [.nilFunc]⟩ := ⟨by kernel_rfl⟩
instance T145 : HasT Tryd.prog 145 ⟨1, 4, (.int .u32), [], [.int .u32 0]⟩ := ⟨by kernel_rfl⟩
instance T146 : HasT Tryd.prog 146 ⟨1, 8, .func, [], [.nilFunc]⟩ := ⟨by kernel_rfl⟩
instance T147 : HasT Tryd.prog 147 ⟨1, 8, (.int .u64), [], [.int .u64 0]⟩ := ⟨by kernel_rfl⟩
instance T148 : HasT Tryd.prog 148 ⟨1, 8, .func, [], [.nilFunc]⟩ := ⟨by kernel_rfl⟩
instance T149 : HasT Tryd.prog 149 ⟨1, 8, .func, [], [.nilFunc]⟩ := ⟨by kernel_rfl⟩
instance T150 : HasT Tryd.prog 150 ⟨1, 8, .func, [], [.nilFunc]⟩ := ⟨by kernel_rfl⟩
instance T151 : HasT Tryd.prog 151 ⟨1, 8, .func, [], [.nilFunc]⟩ := ⟨by kernel_rfl⟩
instance T152 : HasT Tryd.prog 152 ⟨1, 8, (.ptr 147), [], [.pointer none]⟩ := ⟨by kernel_rfl⟩
instance T154 : HasT Tryd.prog 154 ⟨1, 8, .func, [], [.nilFunc]⟩ := ⟨by kernel_rfl⟩
instance T155 : HasT Tryd.prog 155 ⟨4, 40, .struct, [(0, 1), (1, 1), (2, 1), (3, 1)], [.pointer none, .pointer none, .pointer none, .string ⟨#[]⟩]⟩ := ⟨by kernel_rfl⟩
instance T156 : HasT Tryd.prog 156 ⟨4, 40, .struct, [(0, 1), (1, 1), (2, 1), (3, 1)], [.pointer none, .pointer none, .pointer none, .string ⟨#[]⟩]⟩ := ⟨by kernel_rfl⟩
instance T157 : HasT Tryd.prog 157 ⟨0, 0, (.array 0 16), [], []⟩ := ⟨by kernel_rfl⟩
instance T158 : HasT Tryd.prog 158 ⟨0, 0, .struct, [(0, 0)], []⟩ := ⟨by kernel_rfl⟩
instance T159 : HasT Tryd.prog 159 ⟨0, 0, .struct, [(0, 0)], []⟩ := ⟨by kernel_rfl⟩
instance T160 : HasT Tryd.prog 160 ⟨1, 8, .func, [], [.nilFunc]⟩ := ⟨by kernel_rfl⟩
instance T161 : HasT Tryd.prog 161 ⟨1, 1, (.int .u8), [], [.int .u8 0]⟩ := ⟨by kernel_rfl⟩
instance T162 : HasT Tryd.prog 162 ⟨1, 1, (.int .u8), [], [.int .u8 0]⟩ := ⟨by kernel_rfl⟩
instance T163 : HasT Tryd.prog 163 ⟨1, 8, .func, [], [.nilFunc]⟩ := ⟨by kernel_rfl⟩
instance T164 : HasT Tryd.prog 164 ⟨1, 4, (.int .i32), [], [.int .i32 0]⟩ := ⟨by kernel_rfl⟩
instance T165 : HasT Tryd.prog 165 ⟨1, 4, (.int .i32), [], [.int .i32 0]⟩ := ⟨by kernel_rfl⟩
instance T166 : HasT Tryd.prog 166 ⟨11, 48, .struct, [(0, 1), (1, 1), (2, 1), (3, 1), (4, 1), (5, 1), (6, 1), (7, 1), (8, 1), (9, 1), (10, 1)], [.int .u64 0, .int .u64 0, .int .u32 0, .int .u8 0, .int .u8 0, .int .u8 0, .int .u8 0, .nilFunc, .pointer none, .int .i32 0, .int .i32 0]⟩ := ⟨by kernel_rfl⟩
instance T167 : HasT Tryd.prog 167 ⟨11, 48, .struct, [(0, 1), (1, 1), (2, 1), (3, 1), (4, 1), (5, 1), (6, 1), (7, 1), (8, 1), (9, 1), (10, 1)], [.int .u64 0, .int .u64 0, .int .u32 0, .int .u8 0, .int .u8 0, .int .u8 0, .int .u8 0, .nilFunc, .pointer none, .int .i32 0, .int .i32 0]⟩ := ⟨by kernel_rfl⟩
end Go.Proofs.YtjmbjgecfpggdaaDoor
namespace Go.Proofs.YtjmbjgecfpggdaaDoor
open Go.Ab Go.Rx
abbrev Dint (x : Int) : D := .lit (.int .i64 x)
abbrev Dbool (b : Bool) : D := .lit (.bool b)
abbrev Du64 (x : Int) : D := .lit (.int .u64 x)
abbrev Di32 (x : Int) : D := .lit (.int .i32 x)
theorem mix : Tryd.prog.follows .mixedOrders = true := by kernel_rfl
theorem drop_cons {α : Type} {l : List α} {k : Nat} {x : α} (h : l[k]? = some x) : l.drop k = x :: l.drop (k + 1) := by
  obtain ⟨h1, h2⟩ := List.getElem?_eq_some_iff.1 h
  rw [List.drop_eq_getElem_cons h1, h2]
theorem getD_some {α : Type} {l : List α} {i : Nat} {x y : α} (h : l[i]? = some x) : l.getD i y = x := by simp [List.getD, h]
theorem take_succ' {α : Type} {l : List α} {k : Nat} {x : α} (h : l[k]? = some x) : l.take (k + 1) = l.take k ++ [x] := by
  rw [List.take_add_one, h]; rfl
theorem wi32 {x : Int} (h1 : -2147483648 ≤ x) (h2 : x ≤ 2147483647) : IntKind.i32.wrap x = x := by
  simp [IntKind.wrap, IntKind.bits, IntKind.signed]; omega
/-- ranges and expressions as data -/
abbrev rgc (r : Rg) : List D := [Di32 r.1, Di32 r.2]
abbrev rgs (l : List Rg) : D := .slice (l.map rgc)
mutual
def rxc : Rx → List D
  | .mk op mn mx rs ks => [Dint op, Dint mn, Dint mx, rgs rs, .slice (rxL ks)]
def rxL : List Rx → List (List D)
  | [] => []
  | k :: ks => rxc k :: rxL ks
end
theorem rxL_map : ∀ l : List Rx, rxL l = l.map rxc
  | [] => rfl
  | k :: ks => by rw [rxL, rxL_map ks]; rfl
theorem rxc_mk (op mn mx : Int) (rs : List Rg) (ks : List Rx) : rxc (.mk op mn mx rs ks) = [Dint op, Dint mn, Dint mx, rgs rs, .slice (ks.map rxc)] := by rw [rxc, rxL_map]
theorem rxc_len (e : Rx) : (rxc e).length = 5 := by obtain ⟨op, mn, mx, rs, ks⟩ := e; rw [rxc_mk]; rfl
abbrev Drx (e : Rx) : D := .agg (rxc e)
/-- an expression's cells, the kids as they are -/
abbrev rx5 (op mn mx : Int) (rs : List Rg) (ks : List Rx) : List D := [Dint op, Dint mn, Dint mx, rgs rs, .slice (ks.map rxc)]
theorem idx_rx {ks : List Rx} {i : Nat} {op mn mx : Int} {rs : List Rg} {kk : List Rx} (h : ks[i]? = some (.mk op mn mx rs kk)) : (ks.map rxc)[((i : Nat) : Int).toNat]? = some (rx5 op mn mx rs kk) := by
  rw [← show rxc (.mk op mn mx rs kk) = rx5 op mn mx rs kk from rxc_mk op mn mx rs kk]; exact idx h
mutual
/-- the lists of an expression have lengths that Go has -/
def fit : Rx → Prop
  | .mk _ _ _ rs ks => rs.length ≤ 9223372036854775807 ∧ ks.length ≤ 9223372036854775807 ∧ fitL ks
def fitL : List Rx → Prop
  | [] => True
  | k :: ks => fit k ∧ fitL ks
end
theorem fitL_mem : ∀ {l : List Rx}, fitL l → ∀ k ∈ l, fit k
  | [], _, k, hk => by simp at hk
  | x :: l, h, k, hk => by
    rw [fitL] at h
    rw [List.mem_cons] at hk
    rcases hk with rfl | hk
    · exact h.1
    · exact fitL_mem h.2 k hk
end Go.Proofs.YtjmbjgecfpggdaaDoor
