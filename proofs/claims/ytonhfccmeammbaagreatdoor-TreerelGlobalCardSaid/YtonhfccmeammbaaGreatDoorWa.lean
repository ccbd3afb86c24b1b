/- What the first functions compute, for every input. -/
import Derived.Test.YtonhfccmeammbaaGreatDoorFa
import Derived.Test.YtonhfccmeammbaaGreatDoorProg
import Derived.Test.YtonhfccmeammbaaGreatDoorFc
set_option linter.all false
set_option linter.unusedVariables false
set_option linter.unusedSimpArgs false
namespace Go.Proofs.YtonhfccmeammbaaGreatDoor
open Go.Ab
instance T1 : HasT Tryz.prog 1 ⟨1, 8, .func, [], [.nilFunc]⟩ := ⟨by kernel_rfl⟩
instance T2 : HasT Tryz.prog 2 ⟨1, 8, (.int .i64), [], [.int .i64 0]⟩ := ⟨by kernel_rfl⟩
instance T3 : HasT Tryz.prog 3 ⟨1, 8, (.int .i64), [], [.int .i64 0]⟩ := ⟨by kernel_rfl⟩
instance T4 : HasT Tryz.prog 4 ⟨1, 1, .bool, [], [.bool false]⟩ := ⟨by kernel_rfl⟩
instance T5 : HasT Tryz.prog 5 ⟨1, 1, (.int .u8), [], [.int .u8 0]⟩ := ⟨by kernel_rfl⟩
instance T6 : HasT Tryz.prog 6 ⟨1, 1, (.int .u8), [], [.int .u8 0]⟩ := ⟨by kernel_rfl⟩
instance T7 : HasT Tryz.prog 7 ⟨4, 24, .struct, [(0, 1), (1, 1), (2, 1), (3, 1)], [.int .i64 0, .int .i64 0, .bool false, .int .u8 0]⟩ := ⟨by kernel_rfl⟩
instance T8 : HasT Tryz.prog 8 ⟨4, 24, .struct, [(0, 1), (1, 1), (2, 1), (3, 1)], [.int .i64 0, .int .i64 0, .bool false, .int .u8 0]⟩ := ⟨by kernel_rfl⟩
instance T9 : HasT Tryz.prog 9 ⟨1, 16, .str, [], [.string ⟨#[]⟩]⟩ := ⟨by kernel_rfl⟩
instance T10 : HasT Tryz.prog 10 ⟨1, 16, .str, [], [.string ⟨#[]⟩]⟩ := ⟨by kernel_rfl⟩
instance T11 : HasT Tryz.prog 11 ⟨1, 16, .str, [], [.string ⟨#[]⟩]⟩ := ⟨by kernel_rfl⟩
instance T12 : HasT Tryz.prog 12 ⟨1, 8, (.int .u64), [], [.int .u64 0]⟩ := ⟨by kernel_rfl⟩
instance T13 : HasT Tryz.prog 13 ⟨2, 24, .struct, [(0, 1), (1, 1)], [.string ⟨#[]⟩, .int .u64 0]⟩ := ⟨by kernel_rfl⟩
instance T14 : HasT Tryz.prog 14 ⟨2, 24, .struct, [(0, 1), (1, 1)], [.string ⟨#[]⟩, .int .u64 0]⟩ := ⟨by kernel_rfl⟩
instance T15 : HasT Tryz.prog 15 ⟨1, 8, (.ptr 263), [], [.pointer none]⟩ := ⟨by kernel_rfl⟩
instance T16 : HasT Tryz.prog 16 ⟨1, 8, (.ptr 266), [], [.pointer none]⟩ := ⟨by kernel_rfl⟩
instance T17 : HasT Tryz.prog 17 ⟨1, 8, (.ptr 274), [], [.pointer none]⟩ := ⟨by kernel_rfl⟩
instance T18 : HasT Tryz.prog 18 ⟨1, 8, .struct, [(0, 1)], [.pointer none]⟩ := ⟨by kernel_rfl⟩
instance T19 : HasT Tryz.prog 19 ⟨1, 8, .struct, [(0, 1)], [.pointer none]⟩ := ⟨by kernel_rfl⟩
instance T20 : HasT Tryz.prog 20 ⟨1, 16, .other, [], [.nilIface]⟩ := ⟨by kernel_rfl⟩
instance T21 : HasT Tryz.prog 21 ⟨1, 4, (.int .i32), [], [.int .i32 0]⟩ := ⟨by kernel_rfl⟩
instance T22 : HasT Tryz.prog 22 ⟨1, 24, (.slice 3), [], [nilS]⟩ := ⟨by kernel_rfl⟩
instance T23 : HasT Tryz.prog 23 ⟨1, 8, (.ptr 57), [], [.pointer none]⟩ := ⟨by kernel_rfl⟩
instance T24 : HasT Tryz.prog 24 ⟨1, 8, .func, [], [.nilFunc]⟩ := ⟨by kernel_rfl⟩
instance T25 : HasT Tryz.prog 25 ⟨1, 24, (.slice 79), [], [nilS]⟩ := ⟨by kernel_rfl⟩
instance T26 : HasT Tryz.prog 26 ⟨1, 24, (.slice 30), [], [nilS]⟩ := ⟨by kernel_rfl⟩
instance T27 : HasT Tryz.prog 27 ⟨1, 24, (.slice 66), [], [nilS]⟩ := ⟨by kernel_rfl⟩
instance T28 : HasT Tryz.prog 28 ⟨1, 24, (.slice 84), [], [nilS]⟩ := ⟨by kernel_rfl⟩
instance T29 : HasT Tryz.prog 29 ⟨1, 24, (.slice 55), [], [nilS]⟩ := ⟨by kernel_rfl⟩
instance T30 : HasT Tryz.prog 30 ⟨1, 24, (.slice 9), [], [nilS]⟩ := ⟨by kernel_rfl⟩
instance T31 : HasT Tryz.prog 31 ⟨7, 168, .struct, [(0, 1), (1, 1), (2, 1), (3, 1), (4, 1), (5, 1), (6, 1)], [nilS, nilS, nilS, nilS, nilS, nilS, nilS]⟩ := ⟨by kernel_rfl⟩
instance T32 : HasT Tryz.prog 32 ⟨7, 168, .struct, [(0, 1), (1, 1), (2, 1), (3, 1), (4, 1), (5, 1), (6, 1)], [nilS, nilS, nilS, nilS, nilS, nilS, nilS]⟩ := ⟨by kernel_rfl⟩
instance T33 : HasT Tryz.prog 33 ⟨1, 8, .func, [], [.nilFunc]⟩ := ⟨by kernel_rfl⟩
instance T34 : HasT Tryz.prog 34 ⟨1, 24, (.slice 36), [], [nilS]⟩ := ⟨by kernel_rfl⟩
instance T35 : HasT Tryz.prog 35 ⟨11, 160, .struct, [(0, 1), (1, 1), (2, 1), (3, 1), (4, 1), (5, 1), (6, 1), (7, 1), (8, 1), (9, 1), (10, 1)], [.int .i64 0, .string ⟨#[]⟩, .string ⟨#[]⟩, .string ⟨#[]⟩, .string ⟨#[]⟩, .string ⟨#[]⟩, .bool false, .int .i64 0, .int .i64 0, nilS, nilS]⟩ := ⟨by kernel_rfl⟩
instance T36 : HasT Tryz.prog 36 ⟨11, 160, .struct, [(0, 1), (1, 1), (2, 1), (3, 1), (4, 1), (5, 1), (6, 1), (7, 1), (8, 1), (9, 1), (10, 1)], [.int .i64 0, .string ⟨#[]⟩, .string ⟨#[]⟩, .string ⟨#[]⟩, .string ⟨#[]⟩, .string ⟨#[]⟩, .bool false, .int .i64 0, .int .i64 0, nilS, nilS]⟩ := ⟨by kernel_rfl⟩
instance T37 : HasT Tryz.prog 37 ⟨1, 8, .func, [], [.nilFunc]⟩ := ⟨by kernel_rfl⟩
instance T38 : HasT Tryz.prog 38 ⟨1, 8, .func, [], [.nilFunc]⟩ := ⟨by kernel_rfl⟩
instance T39 : HasT Tryz.prog 39 ⟨1, 24, (.slice 42), [], [nilS]⟩ := ⟨by kernel_rfl⟩
instance T40 : HasT Tryz.prog 40 ⟨1, 8, .func, [], [.nilFunc]⟩ := ⟨by kernel_rfl⟩
instance T41 : HasT Tryz.prog 41 ⟨3, 40, .struct, [(0, 1), (1, 1), (2, 1)], [.int .i64 0, .int .i64 0, nilS]⟩ := ⟨by kernel_rfl⟩
instance T42 : HasT Tryz.prog 42 ⟨3, 40, .struct, [(0, 1), (1, 1), (2, 1)], [.int .i64 0, .int .i64 0, nilS]⟩ := ⟨by kernel_rfl⟩
instance T43 : HasT Tryz.prog 43 ⟨1, 8, .func, [], [.nilFunc]⟩ := ⟨by kernel_rfl⟩
instance T44 : HasT Tryz.prog 44 ⟨1, 8, .func, [], [.nilFunc]⟩ := ⟨by kernel_rfl⟩
instance T45 : HasT Tryz.prog 45 ⟨1, 8, .func, [], [.nilFunc]⟩ := ⟨by kernel_rfl⟩
instance T46 : HasT Tryz.prog 46 ⟨1, 8, .func, [], [.nilFunc]⟩ := ⟨by kernel_rfl⟩
instance T47 : HasT Tryz.prog 47 ⟨1, 8, .func, [], [.nilFunc]⟩ := ⟨by kernel_rfl⟩
instance T48 : HasT Tryz.prog 48 ⟨1, 8, .func, [], [.nilFunc]⟩ := ⟨by kernel_rfl⟩
instance T49 : HasT Tryz.prog 49 ⟨1, 8, .func, [], [.nilFunc]⟩ := ⟨by kernel_rfl⟩
instance T50 : HasT Tryz.prog 50 ⟨1, 8, .func, [], [.nilFunc]⟩ := ⟨by kernel_rfl⟩
instance T52 : HasT Tryz.prog 52 ⟨1, 8, .func, [], [.nilFunc]⟩ := ⟨by kernel_rfl⟩
instance T53 : HasT Tryz.prog 53 ⟨1, 8, .func, [], [.nilFunc]⟩ := ⟨by kernel_rfl⟩
instance T54 : HasT Tryz.prog 54 ⟨4, 40, .struct, [(0, 1), (1, 1), (2, 1), (3, 1)], [.string ⟨#[]⟩, .int .i64 0, .int .i64 0, .int .i64 0]⟩ := ⟨by kernel_rfl⟩
instance T55 : HasT Tryz.prog 55 ⟨4, 40, .struct, [(0, 1), (1, 1), (2, 1), (3, 1)], [.string ⟨#[]⟩, .int .i64 0, .int .i64 0, .int .i64 0]⟩ := ⟨by kernel_rfl⟩
instance T56 : HasT Tryz.prog 56 ⟨2, 32, .struct, [(0, 1), (1, 1)], [nilS, .int .i64 0]⟩ := ⟨by kernel_rfl⟩
instance T57 : HasT Tryz.prog 57 ⟨2, 32, .struct, [(0, 1), (1, 1)], [nilS, .int .i64 0]⟩ := ⟨by kernel_rfl⟩
instance T58 : HasT Tryz.prog 58 ⟨1, 8, .func, [], [.nilFunc]⟩ := ⟨by kernel_rfl⟩
instance T59 : HasT Tryz.prog 59 ⟨1, 8, .func, [], [.nilFunc]⟩ := ⟨by kernel_rfl⟩
instance T60 : HasT Tryz.prog 60 ⟨1, 8, (.int .i64), [], [.int .i64 0]⟩ := ⟨by kernel_rfl⟩
instance T62 : HasT Tryz.prog 62 ⟨1, 8, .func, [], [.nilFunc]⟩ := ⟨by kernel_rfl⟩
instance T63 : HasT Tryz.prog 63 ⟨1, 8, .func, [], [.nilFunc]⟩ := ⟨by kernel_rfl⟩
instance T64 : HasT Tryz.prog 64 ⟨1, 24, (.slice 82), [], [nilS]⟩ := ⟨by kernel_rfl⟩
instance T65 : HasT Tryz.prog 65 ⟨4, 56, .struct, [(0, 1), (1, 1), (2, 1), (3, 1)], [.string ⟨#[]⟩, .int .i64 0, .int .i64 0, nilS]⟩ := ⟨by kernel_rfl⟩
instance T66 : HasT Tryz.prog 66 ⟨4, 56, .struct, [(0, 1), (1, 1), (2, 1), (3, 1)], [.string ⟨#[]⟩, .int .i64 0, .int .i64 0, nilS]⟩ := ⟨by kernel_rfl⟩
instance T67 : HasT Tryz.prog 67 ⟨1, 8, .func, [], [.nilFunc]⟩ := ⟨by kernel_rfl⟩
instance T68 : HasT Tryz.prog 68 ⟨1, 8, .func, [], [.nilFunc]⟩ := ⟨by kernel_rfl⟩
instance T69 : HasT Tryz.prog 69 ⟨1, 8, .func, [], [.nilFunc]⟩ := ⟨by kernel_rfl⟩
instance T70 : HasT Tryz.prog 70 ⟨1, 8, .func, [], [.nilFunc]⟩ := ⟨by kernel_rfl⟩
instance T71 : HasT Tryz.prog 71 ⟨1, 8, .func, [], [.nilFunc]⟩ := ⟨by kernel_rfl⟩
instance T72 : HasT Tryz.prog 72 ⟨1, 8, .func, [], [.nilFunc]⟩ := ⟨by kernel_rfl⟩
instance T73 : HasT Tryz.prog 73 ⟨1, 8, .func, [], [.nilFunc]⟩ := ⟨by kernel_rfl⟩
instance T74 : HasT Tryz.prog 74 ⟨1, 8, .func, [], [.nilFunc]⟩ := ⟨by kernel_rfl⟩
instance T75 : HasT Tryz.prog 75 ⟨1, 8, .func, [], [.nilFunc]⟩ := ⟨by kernel_rfl⟩
instance T76 : HasT Tryz.prog 76 ⟨2, 16, .struct, [(0, 1), (1, 1)], [.int .i64 0, .int .i64 0]⟩ := ⟨by kernel_rfl⟩
instance T77 : HasT Tryz.prog 77 ⟨2, 16, .struct, [(0, 1), (1, 1)], [.int .i64 0, .int .i64 0]⟩ := ⟨by kernel_rfl⟩
instance T78 : HasT Tryz.prog 78 ⟨2, 24, .struct, [(0, 1), (1, 1)], [.string ⟨#[]⟩, .bool false]⟩ := ⟨by kernel_rfl⟩
instance T79 : HasT Tryz.prog 79 ⟨2, 24, .struct, [(0, 1), (1, 1)], [.string ⟨#[]⟩, .bool false]⟩ := ⟨by kernel_rfl⟩
instance T80 : HasT Tryz.prog 80 ⟨1, 8, .func, [], [.nilFunc]⟩ := ⟨by kernel_rfl⟩
instance T81 : HasT Tryz.prog 81 ⟨2, 32, .struct, [(0, 1), (1, 1)], [.string ⟨#[]⟩, .string ⟨#[]⟩]⟩ := ⟨by kernel_rfl⟩
instance T82 : HasT Tryz.prog 82 ⟨2, 32, .struct, [(0, 1), (1, 1)], [.string ⟨#[]⟩, .string ⟨#[]⟩]⟩ := ⟨by kernel_rfl⟩
instance T83 : HasT Tryz.prog 83 ⟨4, 56, .struct, [(0, 1), (1, 1), (2, 1), (3, 1)], [.string ⟨#[]⟩, .int .i64 0, .int .i64 0, nilS]⟩ := ⟨by kernel_rfl⟩
instance T84 : HasT Tryz.prog 84 ⟨4, 56, .struct, [(0, 1), (1, 1), (2, 1), (3, 1)], [.string ⟨#[]⟩, .int .i64 0, .int .i64 0, nilS]⟩ := ⟨by kernel_rfl⟩
instance T85 : HasT Tryz.prog 85 ⟨1, 8, .func, [], [.nilFunc]⟩ := ⟨by kernel_rfl⟩
instance T86 : HasT Tryz.prog 86 ⟨1, 8, .func, [], [.nilFunc]⟩ := ⟨by kernel_rfl⟩
instance T87 : HasT Tryz.prog 87 ⟨1, 8, (.ptr 32), [], [.pointer none]⟩ := ⟨by kernel_rfl⟩
instance T88 : HasT Tryz.prog 88 ⟨1, 8, .func, [], [.nilFunc]⟩ := ⟨by kernel_rfl⟩
instance T89 : HasT Tryz.prog 89 ⟨1, 8, .func, [], [.nilFunc]⟩ := ⟨by kernel_rfl⟩
instance T90 : HasT Tryz.prog 90 ⟨1, 8, .func, [], [.nilFunc]⟩ := ⟨by kernel_rfl⟩
instance T92 : HasT Tryz.prog 92 ⟨1, 8, .func, [], [.nilFunc]⟩ := ⟨by kernel_rfl⟩
instance T94 : HasT Tryz.prog 94 ⟨1, 8, .func, [], [.nilFunc]⟩ := ⟨by kernel_rfl⟩
instance T95 : HasT Tryz.prog 95 ⟨1, 8, .func, [], [.nilFunc]⟩ := ⟨by kernel_rfl⟩
instance T96 : HasT Tryz.prog 96 ⟨1, 8, .func, [], [.nilFunc]⟩ := ⟨by kernel_rfl⟩
instance T97 : HasT Tryz.prog 97 ⟨1, 8, .func, [], [.nilFunc]⟩ := ⟨by kernel_rfl⟩
instance T98 : HasT Tryz.prog 98 ⟨1, 8, .func, [], [.nilFunc]⟩ := ⟨by kernel_rfl⟩
instance T99 : HasT Tryz.prog 99 ⟨1, 8, .func, [], [.nilFunc]⟩ := ⟨by kernel_rfl⟩
instance T100 : HasT Tryz.prog 100 ⟨1, 8, .func, [], [.nilFunc]⟩ := ⟨by kernel_rfl⟩
instance T101 : HasT Tryz.prog 101 ⟨1, 8, .func, [], [.nilFunc]⟩ := ⟨by kernel_rfl⟩
instance T102 : HasT Tryz.prog 102 ⟨1, 8, .func, [], [.nilFunc]⟩ := ⟨by kernel_rfl⟩
instance T103 : HasT Tryz.prog 103 ⟨1, 8, .func, [], [.nilFunc]⟩ := ⟨by kernel_rfl⟩
instance T104 : HasT Tryz.prog 104 ⟨1, 8, .func, [], [.nilFunc]⟩ := ⟨by kernel_rfl⟩
instance T105 : HasT Tryz.prog 105 ⟨1, 8, .func, [], [.nilFunc]⟩ := ⟨by kernel_rfl⟩
instance T106 : HasT Tryz.prog 106 ⟨20, 344, .struct, [(0, 7), (7, 11), (18, 1), (19, 1)], [nilS, nilS, nilS, nilS, nilS, nilS, nilS, .int .i64 0, .string ⟨#[]⟩, .string ⟨#[]⟩, .string ⟨#[]⟩, .string ⟨#[]⟩, .string ⟨#[]⟩, .bool false, .int .i64 0, .int .i64 0, nilS, nilS, .int .i64 0, .int .i64 0]⟩ := ⟨by kernel_rfl⟩
instance T107 : HasT Tryz.prog 107 ⟨20, 344, .struct, [(0, 7), (7, 11), (18, 1), (19, 1)], [nilS, nilS, nilS, nilS, nilS, nilS, nilS, .int .i64 0, .string ⟨#[]⟩, .string ⟨#[]⟩, .string ⟨#[]⟩, .string ⟨#[]⟩, .string ⟨#[]⟩, .bool false, .int .i64 0, .int .i64 0, nilS, nilS, .int .i64 0, .int .i64 0]⟩ := ⟨by kernel_rfl⟩
instance T108 : HasT Tryz.prog 108 ⟨1, 8, .func, [], [.nilFunc]⟩ := ⟨by kernel_rfl⟩
instance T109 : HasT Tryz.prog 109 ⟨1, 8, .func, [], [.nilFunc]⟩ := ⟨by kernel_rfl⟩
instance T110 : HasT Tryz.prog 110 ⟨1, 24, (.slice 207), [], [nilS]⟩ := ⟨by kernel_rfl⟩
instance T111 : HasT Tryz.prog 111 ⟨1, 24, (.slice 113), [], [nilS]⟩ := ⟨by kernel_rfl⟩
instance T112 : HasT Tryz.prog 112 ⟨5, 72, .struct, [(0, 1), (1, 1), (2, 1), (3, 1), (4, 1)], [.int .i64 0, .int .i64 0, .int .i64 0, nilS, nilS]⟩ := ⟨by kernel_rfl⟩
instance T113 : HasT Tryz.prog 113 ⟨5, 72, .struct, [(0, 1), (1, 1), (2, 1), (3, 1), (4, 1)], [.int .i64 0, .int .i64 0, .int .i64 0, nilS, nilS]⟩ := ⟨by kernel_rfl⟩
instance T115 : HasT Tryz.prog 115 ⟨1, 8, .func, [], [.nilFunc]⟩ := ⟨by kernel_rfl⟩
instance T117 : HasT Tryz.prog 117 ⟨1, 8, .func, [], [.nilFunc]⟩ := ⟨by kernel_rfl⟩
instance T118 : HasT Tryz.prog 118 ⟨1, 8, .func, [], [.nilFunc]⟩ := ⟨by kernel_rfl⟩
instance T119 : HasT Tryz.prog 119 ⟨1, 8, .func, [], [.nilFunc]⟩ := ⟨by kernel_rfl⟩
instance T120 : HasT Tryz.prog 120 ⟨1, 8, .func, [], [.nilFunc]⟩ := ⟨by kernel_rfl⟩
instance T122 : HasT Tryz.prog 122 ⟨1, 8, .func, [], [.nilFunc]⟩ := ⟨by kernel_rfl⟩
instance T123 : HasT Tryz.prog 123 ⟨1, 8, .func, [], [.nilFunc]⟩ := ⟨by kernel_rfl⟩
instance T124 : HasT Tryz.prog 124 ⟨1, 8, .func, [], [.nilFunc]⟩ := ⟨by kernel_rfl⟩
instance T125 : HasT Tryz.prog 125 ⟨1, 8, .func, [], [.nilFunc]⟩ := ⟨by kernel_rfl⟩
instance T126 : HasT Tryz.prog 126 ⟨1, 8, .func, [], [.nilFunc]⟩ := ⟨by kernel_rfl⟩
instance T127 : HasT Tryz.prog 127 ⟨1, 8, .func, [], [.nilFunc]⟩ := ⟨by kernel_rfl⟩
instance T128 : HasT Tryz.prog 128 ⟨1, 8, .func, [], [.nilFunc]⟩ := ⟨by kernel_rfl⟩
instance T129 : HasT Tryz.prog 129 ⟨1, 8, .func, [], [.nilFunc]⟩ := ⟨by kernel_rfl⟩
instance T130 : HasT Tryz.prog 130 ⟨1, 24, (.slice 105), [], [nilS]⟩ := ⟨by kernel_rfl⟩
instance T131 : HasT Tryz.prog 131 ⟨1, 8, (.ptr 135), [], [.pointer none]⟩ := ⟨by kernel_rfl⟩
instance T132 : HasT Tryz.prog 132 ⟨1, 24, (.slice 137), [], [nilS]⟩ := ⟨by kernel_rfl⟩
instance T133 : HasT Tryz.prog 133 ⟨1, 8, .func, [], [.nilFunc]⟩ := ⟨by kernel_rfl⟩
instance T134 : HasT Tryz.prog 134 ⟨6, 72, .struct, [(0, 1), (1, 1), (2, 1), (3, 1), (4, 1), (5, 1)], [.string ⟨#[]⟩, nilS, .int .i64 0, .int .i64 0, .int .i64 0, .bool false]⟩ := ⟨by kernel_rfl⟩
instance T135 : HasT Tryz.prog 135 ⟨6, 72, .struct, [(0, 1), (1, 1), (2, 1), (3, 1), (4, 1), (5, 1)], [.string ⟨#[]⟩, nilS, .int .i64 0, .int .i64 0, .int .i64 0, .bool false]⟩ := ⟨by kernel_rfl⟩
instance T136 : HasT Tryz.prog 136 ⟨4, 32, .struct, [(0, 1), (1, 1), (2, 1), (3, 1)], [.int .i32 0, .int .i64 0, .int .i64 0, .bool false]⟩ := ⟨by kernel_rfl⟩
instance T137 : HasT Tryz.prog 137 ⟨4, 32, .struct, [(0, 1), (1, 1), (2, 1), (3, 1)], [.int .i32 0, .int .i64 0, .int .i64 0, .bool false]⟩ := ⟨by kernel_rfl⟩
instance T138 : HasT Tryz.prog 138 ⟨1, 8, .func, [], [.nilFunc]⟩ := ⟨by kernel_rfl⟩
instance T139 : HasT Tryz.prog 139 ⟨1, 8, .func, [], [.nilFunc]⟩ := ⟨by kernel_rfl⟩
instance T140 : HasT Tryz.prog 140 ⟨1, 8, .func, [], [.nilFunc]⟩ := ⟨by kernel_rfl⟩
instance T141 : HasT Tryz.prog 141 ⟨1, 8, .func, [], [.nilFunc]⟩ := ⟨by kernel_rfl⟩
instance T142 : HasT Tryz.prog 142 ⟨1, 8, .func, [], [.nilFunc]⟩ := ⟨by kernel_rfl⟩
instance T144 : HasT Tryz.prog 144 ⟨1, 8, .func, [], [.nilFunc]⟩ := ⟨by kernel_rfl⟩
instance T145 : HasT Tryz.prog 145 ⟨1, 8, .func, [], [.nilFunc]⟩ := ⟨by kernel_rfl⟩
instance T146 : HasT Tryz.prog 146 ⟨1, 8, .func, [], [.nilFunc]⟩ := ⟨by kernel_rfl⟩
instance T148 : HasT Tryz.prog 148 ⟨1, 8, .func, [], [.nilFunc]⟩ := ⟨by kernel_rfl⟩
instance T149 : HasT Tryz.prog 149 ⟨4, 40, .struct, [(0, 1), (1, 1), (2, 1), (3, 1)], [.string ⟨#[]⟩, .int .i64 0, .int .i64 0, .int .i64 0]⟩ := ⟨by kernel_rfl⟩
instance T150 : HasT Tryz.prog 150 ⟨4, 40, .struct, [(0, 1), (1, 1), (2, 1), (3, 1)], [.string ⟨#[]⟩, .int .i64 0, .int .i64 0, .int .i64 0]⟩ := ⟨by kernel_rfl⟩
instance T152 : HasT Tryz.prog 152 ⟨1, 8, .func, [], [.nilFunc]⟩ := ⟨by kernel_rfl⟩
instance T153 : HasT Tryz.prog 153 ⟨1, 8, .func, [], [.nilFunc]⟩ := ⟨by kernel_rfl⟩
instance T154 : HasT Tryz.prog 154 ⟨1, 8, .func, [], [.nilFunc]⟩ := ⟨by kernel_rfl⟩
instance T155 : HasT Tryz.prog 155 ⟨1, 8, .func, [], [.nilFunc]⟩ := ⟨by kernel_rfl⟩
instance T156 : HasT Tryz.prog 156 ⟨1, 24, (.slice 21), [], [nilS]⟩ := ⟨by kernel_rfl⟩
instance T157 : HasT Tryz.prog 157 ⟨1, 8, .func, [], [.nilFunc]⟩ := ⟨by kernel_rfl⟩
instance T158 : HasT Tryz.prog 158 ⟨1, 8, .func, [], [.nilFunc]⟩ := ⟨by kernel_rfl⟩
instance T159 : HasT Tryz.prog 159 ⟨1, 8, .func, [], [.nilFunc]⟩ := ⟨by kernel_rfl⟩
instance T160 : HasT Tryz.prog 160 ⟨1, 8, .func, [], [.nilFunc]⟩ := ⟨by kernel_rfl⟩
instance T161 : HasT Tryz.prog 161 ⟨1, 8, .func, [], [.nilFunc]⟩ := ⟨by kernel_rfl⟩
instance T162 : HasT Tryz.prog 162 ⟨1, 8, .func, [], [.nilFunc]⟩ := ⟨by kernel_rfl⟩
instance T164 : HasT Tryz.prog 164 ⟨1, 8, .func, [], [.nilFunc]⟩ := ⟨by kernel_rfl⟩
instance T165 : HasT Tryz.prog 165 ⟨1, 8, .func, [], [.nilFunc]⟩ := ⟨by kernel_rfl⟩
instance T166 : HasT Tryz.prog 166 ⟨1, 8, .func, [], [.nilFunc]⟩ := ⟨by kernel_rfl⟩
instance T167 : HasT Tryz.prog 167 ⟨1, 8, .func, [], [.nilFunc]⟩ := ⟨by kernel_rfl⟩
instance T168 : HasT Tryz.prog 168 ⟨1, 8, .func, [], [.nilFunc]⟩ := ⟨by kernel_rfl⟩
instance T169 : HasT Tryz.prog 169 ⟨1, 8, .func, [], [.nilFunc]⟩ := ⟨by kernel_rfl⟩
instance T170 : HasT Tryz.prog 170 ⟨1, 8, .func, [], [.nilFunc]⟩ := ⟨by kernel_rfl⟩
instance T171 : HasT Tryz.prog 171 ⟨1, 8, .func, [], [.nilFunc]⟩ := ⟨by kernel_rfl⟩
instance T172 : HasT Tryz.prog 172 ⟨1, 8, .func, [], [.nilFunc]⟩ := ⟨by kernel_rfl⟩
instance T173 : HasT Tryz.prog 173 ⟨1, 8, .func, [], [.nilFunc]⟩ := ⟨by kernel_rfl⟩
instance T174 : HasT Tryz.prog 174 ⟨3, 24, .struct, [(0, 1), (1, 1), (2, 1)], [.int .i32 0, .int .i64 0, .int .i64 0]⟩ := ⟨by kernel_rfl⟩
instance T175 : HasT Tryz.prog 175 ⟨3, 24, .struct, [(0, 1), (1, 1), (2, 1)], [.int .i32 0, .int .i64 0, .int .i64 0]⟩ := ⟨by kernel_rfl⟩
instance T176 : HasT Tryz.prog 176 ⟨1, 8, (.ptr 150), [], [.pointer none]⟩ := ⟨by kernel_rfl⟩
instance T177 : HasT Tryz.prog 177 ⟨1, 8, .func, [], [.nilFunc]⟩ := ⟨by kernel_rfl⟩
instance T178 : HasT Tryz.prog 178 ⟨1, 8, (.ptr 3), [], [.pointer none]⟩ := ⟨by kernel_rfl⟩
instance T179 : HasT Tryz.prog 179 ⟨1, 8, .func, [], [.nilFunc]⟩ := ⟨by kernel_rfl⟩
instance T180 : HasT Tryz.prog 180 ⟨1, 8, (.ptr 187), [], [.pointer none]⟩ := ⟨by kernel_rfl⟩
instance T181 : HasT Tryz.prog 181 ⟨1, 8, .func, [], [.nilFunc]⟩ := ⟨by kernel_rfl⟩
instance T182 : HasT Tryz.prog 182 ⟨1, 8, (.int .u64), [], [.int .u64 0]⟩ := ⟨by kernel_rfl⟩
instance T183 : HasT Tryz.prog 183 ⟨1, 8, .func, [], [.nilFunc]⟩ := ⟨by kernel_rfl⟩
instance T184 : HasT Tryz.prog 184 ⟨1, 24, (.slice 110), [], [nilS]⟩ := ⟨by kernel_rfl⟩
instance T185 : HasT Tryz.prog 185 ⟨1, 24, (.slice 182), [], [nilS]⟩ := ⟨by kernel_rfl⟩
instance T186 : HasT Tryz.prog 186 ⟨5, 72, .struct, [(0, 1), (1, 1), (2, 1), (3, 1), (4, 1)], [nilS, .int .u64 0, .int .u64 0, nilS, .bool false]⟩ := ⟨by kernel_rfl⟩
instance T187 : HasT Tryz.prog 187 ⟨5, 72, .struct, [(0, 1), (1, 1), (2, 1), (3, 1), (4, 1)], [nilS, .int .u64 0, .int .u64 0, nilS, .bool false]⟩ := ⟨by kernel_rfl⟩
instance T188 : HasT Tryz.prog 188 ⟨1, 8, .func, [], [.nilFunc]⟩ := ⟨by kernel_rfl⟩
instance T189 : HasT Tryz.prog 189 ⟨1, 8, .func, [], [.nilFunc]⟩ := ⟨by kernel_rfl⟩
instance T190 : HasT Tryz.prog 190 ⟨1, 8, .func, [], [.nilFunc]⟩ := ⟨by kernel_rfl⟩
instance T191 : HasT Tryz.prog 191 ⟨1, 8, .func, [], [.nilFunc]⟩ := ⟨by kernel_rfl⟩
instance T192 : HasT Tryz.prog 192 ⟨1, 8, .func, [], [.nilFunc]⟩ := ⟨by kernel_rfl⟩
instance T193 : HasT Tryz.prog 193 ⟨1, 24, (.slice 182), [], [nilS]⟩ := ⟨by kernel_rfl⟩
instance T194 : HasT Tryz.prog 194 ⟨1, 24, (.slice 193), [], [nilS]⟩ := ⟨by kernel_rfl⟩
instance T195 : HasT Tryz.prog 195 ⟨1, 24, (.slice 193), [], [nilS]⟩ := ⟨by kernel_rfl⟩
instance T196 : HasT Tryz.prog 196 ⟨1, 8, .func, [], [.nilFunc]⟩ := ⟨by kernel_rfl⟩
instance T197 : HasT Tryz.prog 197 ⟨1, 8, .func, [], [.nilFunc]⟩ := ⟨by kernel_rfl⟩
instance T199 : HasT Tryz.prog 199 ⟨1, 8, .func, [], [.nilFunc]⟩ := ⟨by kernel_rfl⟩
instance T200 : HasT Tryz.prog 200 ⟨1, 8, .func, [], [.nilFunc]⟩ := ⟨by kernel_rfl⟩
instance T202 : HasT Tryz.prog 202 ⟨1, 8, .func, [], [.nilFunc]⟩ := ⟨by kernel_rfl⟩
instance T203 : HasT Tryz.prog 203 ⟨3, 24, .struct, [(0, 1), (1, 1), (2, 1)], [.int .u64 0, .int .u64 0, .bool false]⟩ := ⟨by kernel_rfl⟩
instance T204 : HasT Tryz.prog 204 ⟨3, 24, .struct, [(0, 1), (1, 1), (2, 1)], [.int .u64 0, .int .u64 0, .bool false]⟩ := ⟨by kernel_rfl⟩
instance T205 : HasT Tryz.prog 205 ⟨1, 8, .func, [], [.nilFunc]⟩ := ⟨by kernel_rfl⟩
instance T206 : HasT Tryz.prog 206 ⟨2, 8, .struct, [(0, 1), (1, 1)], [.int .i32 0, .int .i32 0]⟩ := ⟨by kernel_rfl⟩
instance T207 : HasT Tryz.prog 207 ⟨2, 8, .struct, [(0, 1), (1, 1)], [.int .i32 0, .int .i32 0]⟩ := ⟨by kernel_rfl⟩
instance T208 : HasT Tryz.prog 208 ⟨1, 24, (.slice 5), [], [nilS]⟩ := ⟨by kernel_rfl⟩
instance T209 : HasT Tryz.prog 209 ⟨1, 8, .func, [], [.nilFunc]⟩ := ⟨by kernel_rfl⟩
instance T210 : HasT Tryz.prog 210 ⟨1, 8, .func, [], [.nilFunc]⟩ := ⟨by kernel_rfl⟩
instance T211 : HasT Tryz.prog 211 ⟨1, 8, .func, [], [.nilFunc]⟩ := ⟨by kernel_rfl⟩
instance T212 : HasT Tryz.prog 212 ⟨1, 8, .func, [], [.nilFunc]⟩ := ⟨by kernel_rfl⟩
instance T213 : HasT Tryz.prog 213 ⟨1, 8, .func, [], [.nilFunc]⟩ := ⟨by kernel_rfl⟩
instance T214 : HasT Tryz.prog 214 ⟨1, 8, .func, [], [.nilFunc]⟩ := ⟨by kernel_rfl⟩
instance T215 : HasT Tryz.prog 215 ⟨1, 8, .func, [], [.nilFunc]⟩ := ⟨by kernel_rfl⟩
instance T216 : HasT Tryz.prog 216 ⟨1, 8, .func, [], [.nilFunc]⟩ := ⟨by kernel_rfl⟩
instance T217 : HasT Tryz.prog 217 ⟨1, 8, (.int .u64), [], [.int .u64 0]⟩ := ⟨by kernel_rfl⟩
instance T218 : HasT Tryz.prog 218 ⟨1, 8, .func, [], [.nilFunc]⟩ := ⟨by kernel_rfl⟩
instance T219 : HasT Tryz.prog 219 ⟨1, 8, .func, [], [.nilFunc]⟩ := ⟨by kernel_rfl⟩
instance T220 : HasT Tryz.prog 220 ⟨1, 8, .func, [], [.nilFunc]⟩ := ⟨by kernel_rfl⟩
instance T221 : HasT Tryz.prog 221 ⟨1, 8, .func, [], [.nilFunc]⟩ := ⟨by kernel_rfl⟩
instance T222 : HasT Tryz.prog 222 ⟨1, 8, .func, [], [.nilFunc]⟩ := ⟨by kernel_rfl⟩
instance T223 : HasT Tryz.prog 223 ⟨1, 8, .func, [], [.nilFunc]⟩ := ⟨by kernel_rfl⟩
instance T224 : HasT Tryz.prog 224 ⟨1, 8, .func, [], [.nilFunc]⟩ := ⟨by kernel_rfl⟩
instance T226 : HasT Tryz.prog 226 ⟨1, 8, .func, [], [.nilFunc]⟩ := ⟨by kernel_rfl⟩
instance T228 : HasT Tryz.prog 228 ⟨1, 8, .func, [], [.nilFunc]⟩ := ⟨by kernel_rfl⟩
instance T230 : HasT Tryz.prog 230 ⟨2, 2, .struct, [(0, 1), (1, 1)], [.int .u8 0, .int .u8 0]⟩ := ⟨by kernel_rfl⟩
instance T231 : HasT Tryz.prog 231 ⟨2, 2, .struct, [(0, 1), (1, 1)], [.int .u8 0, .int .u8 0]⟩ := ⟨by kernel_rfl⟩
instance T232 : HasT Tryz.prog 232 ⟨32, 32, (.array 16 231), [], [.int .u8 0, .int .u8 0, .int .u8 0, .int .u8 0, .int .u8 0, .int .u8 0, .int .u8 0, .int .u8 0, .int .u8 0, .int .u8 0, .int .u8 0, .int .u8 0, .int .u8 0, .int .u8 0, .int .u8 0, .int .u8 0, .int .u8 0, .int .u8 0, .int .u8 0, .int .u8 0, .int .u8 0, .int .u8 0, .int .u8 0, .int .u8 0, .int .u8 0, .int .u8 0, .int .u8 0, .int .u8 0, .int .u8 0, .int .u8 0, .int .u8 0, .int .u8 0]⟩ := ⟨by kernel_rfl⟩
instance T233 : HasT Tryz.prog 233 ⟨1, 8, .func, [], [.nilFunc]⟩ := ⟨by kernel_rfl⟩
instance T234 : HasT Tryz.prog 234 ⟨1, 8, .func, [], [.nilFunc]⟩ := ⟨by kernel_rfl⟩
instance T235 : HasT Tryz.prog 235 ⟨1, 8, .func, [], [.nilFunc]⟩ := ⟨by kernel_rfl⟩
instance T236 : HasT Tryz.prog 236 ⟨1, 8, .func, [], [.nilFunc]⟩ := ⟨by kernel_rfl⟩
instance T237 : HasT Tryz.prog 237 ⟨1, 8, .func, [], [.nilFunc]⟩ := ⟨by kernel_rfl⟩
instance T238 : HasT Tryz.prog 238 ⟨1, 8, .func, [], [.nilFunc]⟩ := ⟨by kernel_rfl⟩
instance T239 : HasT Tryz.prog 239 ⟨1, 8, .func, [], [.nilFunc]⟩ := ⟨by kernel_rfl⟩
instance T240 : HasT Tryz.prog 240 ⟨1, 8, .func, [], [.nilFunc]⟩ := ⟨by kernel_rfl⟩
instance T241 : HasT Tryz.prog 241 ⟨1, 8, .func, [], [.nilFunc]⟩ := ⟨by kernel_rfl⟩
instance T242 : HasT Tryz.prog 242 ⟨1, 8, .func, [], [.nilFunc]⟩ := ⟨by kernel_rfl⟩
instance T243 : HasT Tryz.prog 243 ⟨1, 8, .func, [], [.nilFunc]⟩ := ⟨by kernel_rfl⟩
instance T244 : HasT Tryz.prog 244 ⟨1, 8, .func, [], [.nilFunc]⟩ := ⟨by kernel_rfl⟩
instance T245 : HasT Tryz.prog 245 ⟨1, 8, (.int .i64), [], [.int .i64 0]⟩ := ⟨by kernel_rfl⟩
instance T247 : HasT Tryz.prog 247 ⟨1, 8, .func, [], [.nilFunc]⟩ := ⟨by kernel_rfl⟩
instance T248 : HasT Tryz.prog 248 ⟨1, 8, .func, [], [.nilFunc]⟩ := ⟨by kernel_rfl⟩
instance T249 : HasT Tryz.prog 249 ⟨1, 8, .func, [], [.nilFunc]⟩ := ⟨by kernel_rfl⟩
instance T250 : HasT Tryz.prog 250 ⟨1, 8, .func, [], [.nilFunc]⟩ := ⟨by kernel_rfl⟩
instance T251 : HasT Tryz.prog 251 ⟨1, 8, .func, [], [.nilFunc]⟩ := ⟨by kernel_rfl⟩
instance T252 : HasT Tryz.prog 252 ⟨1, 4, (.int .u32), [], [.int .u32 0]⟩ := ⟨by kernel_rfl⟩
instance T253 : HasT Tryz.prog 253 ⟨1, 8, .func, [], [.nilFunc]⟩ := ⟨by kernel_rfl⟩
instance T254 : HasT Tryz.prog 254 ⟨1, 8, (.int .u64), [], [.int .u64 0]⟩ := ⟨by kernel_rfl⟩
instance T255 : HasT Tryz.prog 255 ⟨1, 8, .func, [], [.nilFunc]⟩ := ⟨by kernel_rfl⟩
instance T256 : HasT Tryz.prog 256 ⟨1, 8, .func, [], [.nilFunc]⟩ := ⟨by kernel_rfl⟩
instance T257 : HasT Tryz.prog 257 ⟨1, 8, .func, [], [.nilFunc]⟩ := ⟨by kernel_rfl⟩
instance T258 : HasT Tryz.prog 258 ⟨1, 8, .func, [], [.nilFunc]⟩ := ⟨by kernel_rfl⟩
instance T259 : HasT Tryz.prog 259 ⟨1, 8, (.ptr 254), [], [.pointer none]⟩ := ⟨by kernel_rfl⟩
instance T260 : HasT Tryz.prog 260 ⟨1, 8, .func, [], [.nilFunc]⟩ := ⟨by kernel_rfl⟩
instance T261 : HasT Tryz.prog 261 ⟨1, 8, .func, [], [.nilFunc]⟩ := ⟨by kernel_rfl⟩
instance T262 : HasT Tryz.prog 262 ⟨4, 40, .struct, [(0, 1), (1, 1), (2, 1), (3, 1)], [.pointer none, .pointer none, .pointer none, .string ⟨#[]⟩]⟩ := ⟨by kernel_rfl⟩
instance T263 : HasT Tryz.prog 263 ⟨4, 40, .struct, [(0, 1), (1, 1), (2, 1), (3, 1)], [.pointer none, .pointer none, .pointer none, .string ⟨#[]⟩]⟩ := ⟨by kernel_rfl⟩
instance T264 : HasT Tryz.prog 264 ⟨0, 0, (.array 0 16), [], []⟩ := ⟨by kernel_rfl⟩
instance T265 : HasT Tryz.prog 265 ⟨0, 0, .struct, [(0, 0)], []⟩ := ⟨by kernel_rfl⟩
instance T266 : HasT Tryz.prog 266 ⟨0, 0, .struct, [(0, 0)], []⟩ := ⟨by kernel_rfl⟩
instance T267 : HasT Tryz.prog 267 ⟨1, 1, (.int .u8), [], [.int .u8 0]⟩ := ⟨by kernel_rfl⟩
instance T268 : HasT Tryz.prog 268 ⟨1, 1, (.int .u8), [], [.int .u8 0]⟩ := ⟨by kernel_rfl⟩
instance T269 : HasT Tryz.prog 269 ⟨1, 8, .func, [], [.nilFunc]⟩ := ⟨by kernel_rfl⟩
instance T270 : HasT Tryz.prog 270 ⟨1, 8, (.ptr 5), [], [.pointer none]⟩ := ⟨by kernel_rfl⟩
instance T271 : HasT Tryz.prog 271 ⟨1, 4, (.int .i32), [], [.int .i32 0]⟩ := ⟨by kernel_rfl⟩
instance T272 : HasT Tryz.prog 272 ⟨1, 4, (.int .i32), [], [.int .i32 0]⟩ := ⟨by kernel_rfl⟩
instance T273 : HasT Tryz.prog 273 ⟨11, 48, .struct, [(0, 1), (1, 1), (2, 1), (3, 1), (4, 1), (5, 1), (6, 1), (7, 1), (8, 1), (9, 1), (10, 1)], [.int .u64 0, .int .u64 0, .int .u32 0, .int .u8 0, .int .u8 0, .int .u8 0, .int .u8 0, .nilFunc, .pointer none, .int .i32 0, .int .i32 0]⟩ := ⟨by kernel_rfl⟩
instance T274 : HasT Tryz.prog 274 ⟨11, 48, .struct, [(0, 1), (1, 1), (2, 1), (3, 1), (4, 1), (5, 1), (6, 1), (7, 1), (8, 1), (9, 1), (10, 1)], [.int .u64 0, .int .u64 0, .int .u32 0, .int .u8 0, .int .u8 0, .int .u8 0, .int .u8 0, .nilFunc, .pointer none, .int .i32 0, .int .i32 0]⟩ := ⟨by kernel_rfl⟩
instance T275 : HasT Tryz.prog 275 ⟨1, 8, .other, [], [.pointer none]⟩ := ⟨by kernel_rfl⟩
end Go.Proofs.YtonhfccmeammbaaGreatDoor
namespace Go.Proofs.YtonhfccmeammbaaGreatDoor
open Go.Ab
abbrev Str := ByteArray
abbrev Dstr (s : Str) : D := .lit (.string s)
abbrev Dint (x : Int) : D := .lit (.int .i64 x)
abbrev Dbool (b : Bool) : D := .lit (.bool b)
def ints (l : List Int) : D := .slice (l.map fun x => [Dint x])
def strs (l : List Str) : D := .slice (l.map fun x => [Dstr x])
structure Attr where
  name : Str
  set : Bool
structure Pair where
  name : Str
  value : Str
structure Text where
  name : Str
  b : Int
  e : Int
  meta_ : List Pair
structure Region where
  type : Str
  b : Int
  e : Int
  keys : List Pair
structure Node where
  label : Str
  b : Int
  e : Int
  parent : Int
structure Corpus where
  attrs : List Attr
  tokens : List (List Str)
  texts : List Text
  regions : List Region
  nodes : List Node
  heads : List Int
  rels : List Str
def Attr.cs (a : Attr) : List D := [Dstr a.name, Dbool a.set]
def Pair.cs (a : Pair) : List D := [Dstr a.name, Dstr a.value]
def Text.cs (a : Text) : List D := [Dstr a.name, Dint a.b, Dint a.e, .slice (a.meta_.map Pair.cs)]
def Region.cs (a : Region) : List D := [Dstr a.type, Dint a.b, Dint a.e, .slice (a.keys.map Pair.cs)]
def Node.cs (a : Node) : List D := [Dstr a.label, Dint a.b, Dint a.e, Dint a.parent]
def Corpus.cs (c : Corpus) : List D := [.slice (c.attrs.map Attr.cs), .slice (c.tokens.map fun t => [strs t]), .slice (c.texts.map Text.cs), .slice (c.regions.map Region.cs), .slice (c.nodes.map Node.cs), ints c.heads, strs c.rels]
abbrev Corpus.d (c : Corpus) : PV := .d (.agg c.cs)

def token (c : Corpus) (i : Int) : Bool := decide (0 ≤ i) && decide (i < c.tokens.length)


/-- results of which only the kind is said -/
def IsB (p : PV) : Prop := ∃ b : Bool, p = B b
def IsI (p : PV) : Prop := ∃ i : Int, p = I .i64 i
def IsII (p : PV) : Prop := ∃ i e : Int, p = .tup [I .i64 i, I .i64 e]
theorem mix : Tryz.prog.follows .mixedOrders = true := by kernel_rfl
end Go.Proofs.YtonhfccmeammbaaGreatDoor
namespace Go.Proofs.YtonhfccmeammbaaGreatDoor
open Go.Ab
attribute [local irreducible] Run Ops Op1 Does Val Tr PureF Eff1

theorem token_s (c : Corpus) (i : Int) : PureF Tryz.prog 39 [c.d, I .i64 i] (B (token c i)) := by
  refine pure_of fun H => ?_
  refine spec_of Tryz.func39 (by kernel_rfl) rfl (by simp) ?_
  dsimp only [Tryz.f39]
  repeat' (first | (refine k_op1 ?_; (first | refine o_sv rfl (by decide) ?_ | (refine k_load ?_; (refine o_val (v_load rfl rfl rfl rfl) rfl rfl (by decide) ?_)) | (refine k_field ?_; (refine o_val (v_field rfl rfl) rfl rfl (by decide) ?_)) | (refine k_blt ?_; (refine o_val (v_lenm rfl) rfl rfl (by decide) ?_)) | (refine k_box ?_; (refine o_does (d_box_d rfl rfl (by decide)) ?_)))) | (refine k_ops ?_; (first | refine o_go (by first | exact .inl rfl | exact .inr ⟨_, _, _, rfl, rfl, rfl⟩) ?_ | refine o_nil ?_ | refine o_no rfl rfl (by decide) ?_ | refine o_casep rfl rfl (fun _ => ?_) (fun _ => ?_))) | (refine k_run ?_; (first | refine r_seq ?_ | refine r_region ?_)))
  all_goals refine r_ret Tryz.func39 _ (res_one rfl rfl) ⟨?_, rfl⟩
  all_goals simp [token, *]

def inB (l : List Int) (x : Int) : Bool := decide (x ∈ l)

end Go.Proofs.YtonhfccmeammbaaGreatDoor
namespace Go.Proofs.YtonhfccmeammbaaGreatDoor
open Go.Ab
attribute [local irreducible] Run Ops Op1 Does Val Tr PureF Eff1

def head (c : Corpus) (i : Int) : Int := match c.heads[i.toNat]? with
  | some h => if token c h then h else -1
  | none => -1

theorem head_s (c : Corpus) (i : Int) (hi : 0 ≤ i) : PureF Tryz.prog 40 [c.d, I .i64 i] (I .i64 (head c i)) := by
  refine pure_of fun H => ?_
  refine spec_of Tryz.func40 (by kernel_rfl) rfl (by simp) ?_
  dsimp only [Tryz.f40]
  repeat' (first | refine r_seq ?_ | refine r_region ?_ | refine o_nil ?_ | refine r_skip ?_ | refine r_block ?_ | refine r_scope ?_ | refine r_inScope ?_ | refine r_tr ?_ | refine t_end mix (by kernel_rfl) ?_ | refine r_inBlock ?_ | refine r_label ?_ | refine o_no rfl rfl (by decide) ?_ | refine o_no2 rfl rfl (by decide) ?_ | refine o_go (by first | exact .inl rfl | exact .inr ⟨_, _, _, rfl, rfl, rfl⟩) ?_ | refine o_sv rfl (by decide) ?_ | refine o_does (d_box_d rfl rfl (by decide)) ?_ | refine o_lit rfl rfl rfl rfl rfl rfl rfl rfl (by decide) ?_ | refine o_build rfl rfl rfl rfl rfl rfl rfl (by decide) ?_ | refine o_does (d_alloc rfl rfl (by decide)) ?_ | refine o_does (d_box_d rfl rfl (by decide)) ?_ | refine o_store0 rfl rfl rfl rfl rfl rfl ?_ | refine o_store rfl rfl rfl rfl rfl rfl rfl rfl rfl ?_ | refine o_app1 rfl rfl _ rfl rfl rfl rfl rfl rfl rfl (by decide) (by omega) ?_ | refine o_val (v_index rfl (by omega) (idx hx) rfl) rfl rfl (by decide) ?_ | refine o_val (v_index rfl (by omega) (idx hy) rfl) rfl rfl (by decide) ?_ | refine o_val (v_index rfl (by omega) (idx hz) rfl) rfl rfl (by decide) ?_ | refine o_val (v_field rfl rfl) rfl rfl (by decide) ?_ | refine o_val (v_loada rfl rfl rfl) rfl rfl (by decide) ?_ | refine o_val (v_load rfl rfl rfl rfl) rfl rfl (by decide) ?_ | refine o_val (v_lenm rfl) rfl rfl (by decide) ?_ | refine o_val (v_loade rfl rfl rfl) rfl rfl (by decide) ?_ | refine o_val (v_rload rfl rfl rfl rfl) rfl rfl (by decide) ?_ | refine o_val (v_add (wi64 (by omega) (by omega))) rfl rfl (by decide) ?_ | refine o_val (v_sub (wi64 (by omega) (by omega))) rfl rfl (by decide) ?_ | refine o_val (v_loadea rfl rfl) rfl rfl (by decide) ?_ | refine o_val (v_fielde rfl rfl) rfl rfl (by decide) ?_ | refine o_val (v_len rfl) rfl rfl (by decide) ?_ | refine o_val (v_lens rfl) rfl rfl (by decide) ?_ | refine o_val (v_lenrm rfl) rfl rfl (by decide) ?_ | refine o_val (v_lenr rfl) rfl rfl (by decide) ?_ | refine o_val v_min rfl rfl (by decide) ?_ | refine o_val v_max rfl rfl (by decide) ?_ | refine o_val (v_beql rfl) rfl rfl (by decide) ?_ | refine o_val (v_bneq rfl) rfl rfl (by decide) ?_ | refine o_val (v_fieldr rfl rfl) rfl rfl (by decide) ?_ | refine o_val v_slss rfl rfl (by decide) ?_ | refine o_val v_sgtr rfl rfl (by decide) ?_ | refine o_val v_sgeq rfl rfl (by decide) ?_ | refine o_val v_sleq rfl rfl (by decide) ?_ | refine o_val (v_loadp rfl rfl rfl rfl) rfl rfl (by decide) ?_ | refine o_casep rfl rfl (fun _ => ?_) (fun _ => ?_) | refine o_casen rfl rfl (fun _ => ?_) (fun _ => ?_) | refine o_case rfl rfl (fun _ => ?_) (fun _ => ?_) | refine r_true rfl ?_ | refine r_false rfl ?_ | refine r_if rfl (fun _ => ?_) (fun _ => ?_) | refine r_ifn rfl (fun _ => ?_) (fun _ => ?_) | refine r_cond rfl (fun _ => ?_) (fun _ => ?_) | refine r_exit rfl ?_)
  by_cases hlt : i.toNat < c.heads.length
  · obtain ⟨h, hh⟩ : ∃ h, c.heads[i.toNat]? = some h := ⟨_, List.getElem?_eq_getElem hlt⟩
    repeat' (first | refine t_pass rfl rfl (by decide) ?_ | refine t_pass2 rfl rfl (by decide) ?_ | refine t_sv rfl (by first | exact rfl | exact ⟨_, rfl, rfl, rfl⟩) (by decide) ?_ | refine t_val (v_index rfl (by omega) (idxi hh) rfl) (by first | exact rfl | exact ⟨_, rfl, rfl, rfl⟩) rfl rfl (by decide) ?_ | refine t_fn (token_s _ _) (by first | exact rfl | exact ⟨_, rfl, rfl, rfl⟩) rfl (by decide) ?_ | refine t_alloc (by first | exact rfl | exact ⟨_, rfl, rfl, rfl⟩) rfl rfl (by decide) ?_ | refine t_lit (by first | exact rfl | exact ⟨_, rfl, rfl, rfl⟩) rfl rfl rfl rfl rfl rfl rfl rfl (by decide) ?_ | refine t_build (by first | exact rfl | exact ⟨_, rfl, rfl, rfl⟩) rfl rfl rfl rfl rfl rfl rfl (by decide) ?_ | refine t_app1 (by first | exact rfl | exact ⟨_, rfl, rfl, rfl⟩) rfl rfl _ rfl rfl rfl rfl rfl rfl rfl (by decide) (by omega) ?_ | refine t_val (v_index rfl (by omega) (idx hx) rfl) (by first | exact rfl | exact ⟨_, rfl, rfl, rfl⟩) rfl rfl (by decide) ?_ | refine t_val (v_index rfl (by omega) (idx hy) rfl) (by first | exact rfl | exact ⟨_, rfl, rfl, rfl⟩) rfl rfl (by decide) ?_ | refine t_val (v_index rfl (by omega) (idx hz) rfl) (by first | exact rfl | exact ⟨_, rfl, rfl, rfl⟩) rfl rfl (by decide) ?_ | refine t_val (v_field rfl rfl) (by first | exact rfl | exact ⟨_, rfl, rfl, rfl⟩) rfl rfl (by decide) ?_ | refine t_val (v_loada rfl rfl rfl) (by first | exact rfl | exact ⟨_, rfl, rfl, rfl⟩) rfl rfl (by decide) ?_ | refine t_val (v_load rfl rfl rfl rfl) (by first | exact rfl | exact ⟨_, rfl, rfl, rfl⟩) rfl rfl (by decide) ?_ | refine t_val (v_lenm rfl) (by first | exact rfl | exact ⟨_, rfl, rfl, rfl⟩) rfl rfl (by decide) ?_ | refine t_val (v_loade rfl rfl rfl) (by first | exact rfl | exact ⟨_, rfl, rfl, rfl⟩) rfl rfl (by decide) ?_ | refine t_val (v_rload rfl rfl rfl rfl) (by first | exact rfl | exact ⟨_, rfl, rfl, rfl⟩) rfl rfl (by decide) ?_ | refine t_val (v_add (wi64 (by omega) (by omega))) (by first | exact rfl | exact ⟨_, rfl, rfl, rfl⟩) rfl rfl (by decide) ?_ | refine t_val (v_sub (wi64 (by omega) (by omega))) (by first | exact rfl | exact ⟨_, rfl, rfl, rfl⟩) rfl rfl (by decide) ?_ | refine t_val (v_loadea rfl rfl) (by first | exact rfl | exact ⟨_, rfl, rfl, rfl⟩) rfl rfl (by decide) ?_ | refine t_val (v_fielde rfl rfl) (by first | exact rfl | exact ⟨_, rfl, rfl, rfl⟩) rfl rfl (by decide) ?_ | refine t_val (v_len rfl) (by first | exact rfl | exact ⟨_, rfl, rfl, rfl⟩) rfl rfl (by decide) ?_ | refine t_val (v_lens rfl) (by first | exact rfl | exact ⟨_, rfl, rfl, rfl⟩) rfl rfl (by decide) ?_ | refine t_val (v_lenrm rfl) (by first | exact rfl | exact ⟨_, rfl, rfl, rfl⟩) rfl rfl (by decide) ?_ | refine t_val (v_lenr rfl) (by first | exact rfl | exact ⟨_, rfl, rfl, rfl⟩) rfl rfl (by decide) ?_ | refine t_val v_min (by first | exact rfl | exact ⟨_, rfl, rfl, rfl⟩) rfl rfl (by decide) ?_ | refine t_val v_max (by first | exact rfl | exact ⟨_, rfl, rfl, rfl⟩) rfl rfl (by decide) ?_ | refine t_val (v_beql rfl) (by first | exact rfl | exact ⟨_, rfl, rfl, rfl⟩) rfl rfl (by decide) ?_ | refine t_val (v_bneq rfl) (by first | exact rfl | exact ⟨_, rfl, rfl, rfl⟩) rfl rfl (by decide) ?_ | refine t_val (v_fieldr rfl rfl) (by first | exact rfl | exact ⟨_, rfl, rfl, rfl⟩) rfl rfl (by decide) ?_ | refine t_val v_slss (by first | exact rfl | exact ⟨_, rfl, rfl, rfl⟩) rfl rfl (by decide) ?_ | refine t_val v_sgtr (by first | exact rfl | exact ⟨_, rfl, rfl, rfl⟩) rfl rfl (by decide) ?_ | refine t_val v_sgeq (by first | exact rfl | exact ⟨_, rfl, rfl, rfl⟩) rfl rfl (by decide) ?_ | refine t_val v_sleq (by first | exact rfl | exact ⟨_, rfl, rfl, rfl⟩) rfl rfl (by decide) ?_ | refine t_val (v_loadp rfl rfl rfl rfl) (by first | exact rfl | exact ⟨_, rfl, rfl, rfl⟩) rfl rfl (by decide) ?_ | refine t_store0 (by first | exact rfl | exact ⟨_, rfl, rfl, rfl⟩) rfl rfl rfl rfl rfl rfl ?_ | refine t_store (by first | exact rfl | exact ⟨_, rfl, rfl, rfl⟩) rfl rfl rfl rfl rfl rfl rfl rfl rfl ?_ | (refine t_either rfl rfl (fun hg => ?_) (fun hg => ?_) <;> simp only [hg] <;> (try simp only [decide_eq_true_eq, decide_eq_false_iff_not, Bool.not_eq_true', Bool.not_eq_false'] at hg)))
    repeat' (first | refine r_seq ?_ | refine r_region ?_ | refine o_nil ?_ | refine r_skip ?_ | refine r_block ?_ | refine r_scope ?_ | refine r_inScope ?_ | refine r_tr ?_ | refine t_end mix (by kernel_rfl) ?_ | refine r_inBlock ?_ | refine r_label ?_ | refine o_no rfl rfl (by decide) ?_ | refine o_no2 rfl rfl (by decide) ?_ | refine o_go (by first | exact .inl rfl | exact .inr ⟨_, _, _, rfl, rfl, rfl⟩) ?_ | refine o_sv rfl (by decide) ?_ | refine o_val (v_index rfl (by omega) (idxi hh) rfl) rfl rfl (by decide) ?_ | refine o_lit rfl rfl rfl rfl rfl rfl rfl rfl (by decide) ?_ | refine o_build rfl rfl rfl rfl rfl rfl rfl (by decide) ?_ | refine o_does (d_alloc rfl rfl (by decide)) ?_ | refine o_does (d_box_d rfl rfl (by decide)) ?_ | refine o_store0 rfl rfl rfl rfl rfl rfl ?_ | refine o_store rfl rfl rfl rfl rfl rfl rfl rfl rfl ?_ | refine o_app1 rfl rfl _ rfl rfl rfl rfl rfl rfl rfl (by decide) (by omega) ?_ | refine o_val (v_index rfl (by omega) (idx hx) rfl) rfl rfl (by decide) ?_ | refine o_val (v_index rfl (by omega) (idx hy) rfl) rfl rfl (by decide) ?_ | refine o_val (v_index rfl (by omega) (idx hz) rfl) rfl rfl (by decide) ?_ | refine o_val (v_field rfl rfl) rfl rfl (by decide) ?_ | refine o_val (v_loada rfl rfl rfl) rfl rfl (by decide) ?_ | refine o_val (v_load rfl rfl rfl rfl) rfl rfl (by decide) ?_ | refine o_val (v_lenm rfl) rfl rfl (by decide) ?_ | refine o_val (v_loade rfl rfl rfl) rfl rfl (by decide) ?_ | refine o_val (v_rload rfl rfl rfl rfl) rfl rfl (by decide) ?_ | refine o_val (v_add (wi64 (by omega) (by omega))) rfl rfl (by decide) ?_ | refine o_val (v_sub (wi64 (by omega) (by omega))) rfl rfl (by decide) ?_ | refine o_val (v_loadea rfl rfl) rfl rfl (by decide) ?_ | refine o_val (v_fielde rfl rfl) rfl rfl (by decide) ?_ | refine o_val (v_len rfl) rfl rfl (by decide) ?_ | refine o_val (v_lens rfl) rfl rfl (by decide) ?_ | refine o_val (v_lenrm rfl) rfl rfl (by decide) ?_ | refine o_val (v_lenr rfl) rfl rfl (by decide) ?_ | refine o_val v_min rfl rfl (by decide) ?_ | refine o_val v_max rfl rfl (by decide) ?_ | refine o_val (v_beql rfl) rfl rfl (by decide) ?_ | refine o_val (v_bneq rfl) rfl rfl (by decide) ?_ | refine o_val (v_fieldr rfl rfl) rfl rfl (by decide) ?_ | refine o_val v_slss rfl rfl (by decide) ?_ | refine o_val v_sgtr rfl rfl (by decide) ?_ | refine o_val v_sgeq rfl rfl (by decide) ?_ | refine o_val v_sleq rfl rfl (by decide) ?_ | refine o_val (v_loadp rfl rfl rfl rfl) rfl rfl (by decide) ?_ | refine o_casep rfl rfl (fun _ => ?_) (fun _ => ?_) | refine o_casen rfl rfl (fun _ => ?_) (fun _ => ?_) | refine o_case rfl rfl (fun _ => ?_) (fun _ => ?_) | refine r_true rfl ?_ | refine r_false rfl ?_ | refine r_if rfl (fun _ => ?_) (fun _ => ?_) | refine r_ifn rfl (fun _ => ?_) (fun _ => ?_) | refine r_cond rfl (fun _ => ?_) (fun _ => ?_) | refine r_exit rfl ?_)
    all_goals refine r_ret Tryz.func40 _ (res_one rfl rfl) ⟨?_, rfl⟩
    all_goals simp_all [head]
    all_goals omega
  · repeat' (first | refine t_pass rfl rfl (by decide) ?_ | refine t_pass2 rfl rfl (by decide) ?_ | refine t_sv rfl (by first | exact rfl | exact ⟨_, rfl, rfl, rfl⟩) (by decide) ?_ | refine t_alloc (by first | exact rfl | exact ⟨_, rfl, rfl, rfl⟩) rfl rfl (by decide) ?_ | refine t_lit (by first | exact rfl | exact ⟨_, rfl, rfl, rfl⟩) rfl rfl rfl rfl rfl rfl rfl rfl (by decide) ?_ | refine t_build (by first | exact rfl | exact ⟨_, rfl, rfl, rfl⟩) rfl rfl rfl rfl rfl rfl rfl (by decide) ?_ | refine t_app1 (by first | exact rfl | exact ⟨_, rfl, rfl, rfl⟩) rfl rfl _ rfl rfl rfl rfl rfl rfl rfl (by decide) (by omega) ?_ | refine t_val (v_index rfl (by omega) (idx hx) rfl) (by first | exact rfl | exact ⟨_, rfl, rfl, rfl⟩) rfl rfl (by decide) ?_ | refine t_val (v_index rfl (by omega) (idx hy) rfl) (by first | exact rfl | exact ⟨_, rfl, rfl, rfl⟩) rfl rfl (by decide) ?_ | refine t_val (v_index rfl (by omega) (idx hz) rfl) (by first | exact rfl | exact ⟨_, rfl, rfl, rfl⟩) rfl rfl (by decide) ?_ | refine t_val (v_field rfl rfl) (by first | exact rfl | exact ⟨_, rfl, rfl, rfl⟩) rfl rfl (by decide) ?_ | refine t_val (v_loada rfl rfl rfl) (by first | exact rfl | exact ⟨_, rfl, rfl, rfl⟩) rfl rfl (by decide) ?_ | refine t_val (v_load rfl rfl rfl rfl) (by first | exact rfl | exact ⟨_, rfl, rfl, rfl⟩) rfl rfl (by decide) ?_ | refine t_val (v_lenm rfl) (by first | exact rfl | exact ⟨_, rfl, rfl, rfl⟩) rfl rfl (by decide) ?_ | refine t_val (v_loade rfl rfl rfl) (by first | exact rfl | exact ⟨_, rfl, rfl, rfl⟩) rfl rfl (by decide) ?_ | refine t_val (v_rload rfl rfl rfl rfl) (by first | exact rfl | exact ⟨_, rfl, rfl, rfl⟩) rfl rfl (by decide) ?_ | refine t_val (v_add (wi64 (by omega) (by omega))) (by first | exact rfl | exact ⟨_, rfl, rfl, rfl⟩) rfl rfl (by decide) ?_ | refine t_val (v_sub (wi64 (by omega) (by omega))) (by first | exact rfl | exact ⟨_, rfl, rfl, rfl⟩) rfl rfl (by decide) ?_ | refine t_val (v_loadea rfl rfl) (by first | exact rfl | exact ⟨_, rfl, rfl, rfl⟩) rfl rfl (by decide) ?_ | refine t_val (v_fielde rfl rfl) (by first | exact rfl | exact ⟨_, rfl, rfl, rfl⟩) rfl rfl (by decide) ?_ | refine t_val (v_len rfl) (by first | exact rfl | exact ⟨_, rfl, rfl, rfl⟩) rfl rfl (by decide) ?_ | refine t_val (v_lens rfl) (by first | exact rfl | exact ⟨_, rfl, rfl, rfl⟩) rfl rfl (by decide) ?_ | refine t_val (v_lenrm rfl) (by first | exact rfl | exact ⟨_, rfl, rfl, rfl⟩) rfl rfl (by decide) ?_ | refine t_val (v_lenr rfl) (by first | exact rfl | exact ⟨_, rfl, rfl, rfl⟩) rfl rfl (by decide) ?_ | refine t_val v_min (by first | exact rfl | exact ⟨_, rfl, rfl, rfl⟩) rfl rfl (by decide) ?_ | refine t_val v_max (by first | exact rfl | exact ⟨_, rfl, rfl, rfl⟩) rfl rfl (by decide) ?_ | refine t_val (v_beql rfl) (by first | exact rfl | exact ⟨_, rfl, rfl, rfl⟩) rfl rfl (by decide) ?_ | refine t_val (v_bneq rfl) (by first | exact rfl | exact ⟨_, rfl, rfl, rfl⟩) rfl rfl (by decide) ?_ | refine t_val (v_fieldr rfl rfl) (by first | exact rfl | exact ⟨_, rfl, rfl, rfl⟩) rfl rfl (by decide) ?_ | refine t_val v_slss (by first | exact rfl | exact ⟨_, rfl, rfl, rfl⟩) rfl rfl (by decide) ?_ | refine t_val v_sgtr (by first | exact rfl | exact ⟨_, rfl, rfl, rfl⟩) rfl rfl (by decide) ?_ | refine t_val v_sgeq (by first | exact rfl | exact ⟨_, rfl, rfl, rfl⟩) rfl rfl (by decide) ?_ | refine t_val v_sleq (by first | exact rfl | exact ⟨_, rfl, rfl, rfl⟩) rfl rfl (by decide) ?_ | refine t_val (v_loadp rfl rfl rfl rfl) (by first | exact rfl | exact ⟨_, rfl, rfl, rfl⟩) rfl rfl (by decide) ?_ | refine t_store0 (by first | exact rfl | exact ⟨_, rfl, rfl, rfl⟩) rfl rfl rfl rfl rfl rfl ?_ | refine t_store (by first | exact rfl | exact ⟨_, rfl, rfl, rfl⟩) rfl rfl rfl rfl rfl rfl rfl rfl rfl ?_ | (refine t_either rfl rfl (fun hg => ?_) (fun hg => ?_) <;> simp only [hg] <;> (try simp only [decide_eq_true_eq, decide_eq_false_iff_not, Bool.not_eq_true', Bool.not_eq_false'] at hg)))
    repeat' (first | refine r_seq ?_ | refine r_region ?_ | refine o_nil ?_ | refine r_skip ?_ | refine r_block ?_ | refine r_scope ?_ | refine r_inScope ?_ | refine r_tr ?_ | refine t_end mix (by kernel_rfl) ?_ | refine r_inBlock ?_ | refine r_label ?_ | refine o_no rfl rfl (by decide) ?_ | refine o_no2 rfl rfl (by decide) ?_ | refine o_go (by first | exact .inl rfl | exact .inr ⟨_, _, _, rfl, rfl, rfl⟩) ?_ | refine o_sv rfl (by decide) ?_ | refine o_lit rfl rfl rfl rfl rfl rfl rfl rfl (by decide) ?_ | refine o_build rfl rfl rfl rfl rfl rfl rfl (by decide) ?_ | refine o_does (d_alloc rfl rfl (by decide)) ?_ | refine o_does (d_box_d rfl rfl (by decide)) ?_ | refine o_store0 rfl rfl rfl rfl rfl rfl ?_ | refine o_store rfl rfl rfl rfl rfl rfl rfl rfl rfl ?_ | refine o_app1 rfl rfl _ rfl rfl rfl rfl rfl rfl rfl (by decide) (by omega) ?_ | refine o_val (v_index rfl (by omega) (idx hx) rfl) rfl rfl (by decide) ?_ | refine o_val (v_index rfl (by omega) (idx hy) rfl) rfl rfl (by decide) ?_ | refine o_val (v_index rfl (by omega) (idx hz) rfl) rfl rfl (by decide) ?_ | refine o_val (v_field rfl rfl) rfl rfl (by decide) ?_ | refine o_val (v_loada rfl rfl rfl) rfl rfl (by decide) ?_ | refine o_val (v_load rfl rfl rfl rfl) rfl rfl (by decide) ?_ | refine o_val (v_lenm rfl) rfl rfl (by decide) ?_ | refine o_val (v_loade rfl rfl rfl) rfl rfl (by decide) ?_ | refine o_val (v_rload rfl rfl rfl rfl) rfl rfl (by decide) ?_ | refine o_val (v_add (wi64 (by omega) (by omega))) rfl rfl (by decide) ?_ | refine o_val (v_sub (wi64 (by omega) (by omega))) rfl rfl (by decide) ?_ | refine o_val (v_loadea rfl rfl) rfl rfl (by decide) ?_ | refine o_val (v_fielde rfl rfl) rfl rfl (by decide) ?_ | refine o_val (v_len rfl) rfl rfl (by decide) ?_ | refine o_val (v_lens rfl) rfl rfl (by decide) ?_ | refine o_val (v_lenrm rfl) rfl rfl (by decide) ?_ | refine o_val (v_lenr rfl) rfl rfl (by decide) ?_ | refine o_val v_min rfl rfl (by decide) ?_ | refine o_val v_max rfl rfl (by decide) ?_ | refine o_val (v_beql rfl) rfl rfl (by decide) ?_ | refine o_val (v_bneq rfl) rfl rfl (by decide) ?_ | refine o_val (v_fieldr rfl rfl) rfl rfl (by decide) ?_ | refine o_val v_slss rfl rfl (by decide) ?_ | refine o_val v_sgtr rfl rfl (by decide) ?_ | refine o_val v_sgeq rfl rfl (by decide) ?_ | refine o_val v_sleq rfl rfl (by decide) ?_ | refine o_val (v_loadp rfl rfl rfl rfl) rfl rfl (by decide) ?_ | refine o_casep rfl rfl (fun _ => ?_) (fun _ => ?_) | refine o_casen rfl rfl (fun _ => ?_) (fun _ => ?_) | refine o_case rfl rfl (fun _ => ?_) (fun _ => ?_) | refine r_true rfl ?_ | refine r_false rfl ?_ | refine r_if rfl (fun _ => ?_) (fun _ => ?_) | refine r_ifn rfl (fun _ => ?_) (fun _ => ?_) | refine r_cond rfl (fun _ => ?_) (fun _ => ?_) | refine r_exit rfl ?_)
    all_goals try simp at hg
    all_goals first | omega | skip
    all_goals refine r_ret Tryz.func40 _ (res_one rfl rfl) ⟨?_, rfl⟩
    all_goals simp_all [head]
end Go.Proofs.YtonhfccmeammbaaGreatDoor
namespace Go.Proofs.YtonhfccmeammbaaGreatDoor
open Go.Ab
attribute [local irreducible] Run Ops Op1 Does Val Tr PureF Eff1

def upFrom (c : Corpus) : Nat → Int → List Int
  | 0, _ => []
  | n + 1, i => if 0 ≤ i then i :: upFrom c n (head c i) else []
def up (c : Corpus) (i : Int) : List Int := if token c i then upFrom c c.tokens.length (head c i) else []

theorem up_s (c : Corpus) (i : Int) (hc : c.tokens.length ≤ 1000000) : PureF Tryz.prog 21 [c.d, I .i64 i] (.d (ints (up c i))) := by
  refine pure_of fun H => ?_
  refine spec_of Tryz.func21 (by kernel_rfl) rfl (by simp) ?_
  dsimp only [Tryz.f21]
  repeat' (first | (refine k_op1 ?_; (first | refine o_nil_row rfl rfl rfl (by decide) ?_ | refine o_sv rfl (by decide) ?_ | (refine k_load ?_; (refine o_val (v_loada rfl rfl rfl) rfl rfl (by decide) ?_)) | (refine k_call ?_; (refine o_fn (token_s _ _) rfl (by decide) ?_)) | (refine k_box ?_; (refine o_does (d_box_d rfl rfl (by decide)) ?_)))) | (refine k_ops ?_; (first | refine o_go (by first | exact .inl rfl | exact .inr ⟨_, _, _, rfl, rfl, rfl⟩) ?_ | refine o_nil ?_)) | (refine k_run ?_; (first | refine r_seq ?_ | refine r_region ?_ | refine r_skip ?_ | refine r_cond rfl (fun _ => ?_) (fun _ => ?_))))
  · refine r_nil 4 rfl ?_
    refine r_ret Tryz.func21 _ (res_one rfl rfl) ⟨?_, rfl⟩
    simp_all [up, ints]
  · have ht : token c i = true := by simp_all
    have h0 : 0 ≤ i := by simp [token] at ht; exact ht.1
    repeat' (first | (refine k_op1 ?_; (first | refine o_sv rfl (by decide) ?_ | (refine k_call ?_; (refine o_fn (head_s _ _ h0) rfl (by decide) ?_)))) | (refine k_ops ?_; (first | refine o_go (by first | exact .inl rfl | exact .inr ⟨_, _, _, rfl, rfl, rfl⟩) ?_ | refine o_nil ?_)) | (refine k_run ?_; (refine r_block ?_)))
    refine r_loop ?_
    refine r_less (r_inv (fun s : List Int × Int => ⟨31, [(1, I .i64 s.2), (2, .ptr (0, 2) 0), (5, .ref (0, 5))], [(5, .row 3 1 (s.1.map fun x => [Dint x])), (2, .box (c.cs.map .d))], H⟩)
      (fun s => s.1.length ≤ c.tokens.length ∧ up c i = s.1 ++ upFrom c (c.tokens.length - s.1.length) s.2) (fun s => c.tokens.length - s.1.length) ?_ ([], head c i) ⟨by simp, by simp [up, ht]⟩) rfl rfl
    intro ⟨out, j⟩ ⟨hl, he⟩ ih
    simp only at hl he ih ⊢
    repeat' (first | (refine k_op1 ?_; (first | refine o_sv rfl (by decide) ?_ | (refine k_load ?_; (first | refine o_val (v_loada rfl rfl rfl) rfl rfl (by decide) ?_ | refine o_val (v_load rfl rfl rfl rfl) rfl rfl (by decide) ?_)) | (refine k_field ?_; (refine o_val (v_field rfl rfl) rfl rfl (by decide) ?_)) | (refine k_blt ?_; (first | refine o_val (v_lenm rfl) rfl rfl (by decide) ?_ | refine o_val (v_lenrm rfl) rfl rfl (by decide) ?_ | refine o_app1 rfl rfl _ rfl rfl rfl rfl rfl rfl rfl (by decide) (by omega) ?_)) | (refine k_call ?_; (refine o_fn (head_s _ _ (by assumption)) rfl (by decide) ?_)) | (refine k_lit ?_; (refine o_lit rfl rfl rfl rfl rfl rfl rfl rfl (by decide) ?_)))) | (refine k_ops ?_; (first | refine o_go (by first | exact .inl rfl | exact .inr ⟨_, _, _, rfl, rfl, rfl⟩) ?_ | refine o_nil ?_ | refine o_no rfl rfl (by decide) ?_ | refine o_casep rfl rfl (fun _ => ?_) (fun _ => ?_))) | (refine k_run ?_; (first | refine r_seq ?_ | refine r_region ?_ | refine r_false rfl ?_ | refine r_skip ?_ | refine r_block ?_ | refine r_inBlock ?_ | refine r_if rfl (fun _ => ?_) (fun _ => ?_) | refine r_exit rfl ?_)))
    · rename_i hj hlt
      have e : c.tokens.length - out.length = (c.tokens.length - (out.length + 1)) + 1 := by omega
      refine r_ren 29 5 rfl rfl ?_
      refine r_less (ih (out ++ [j], head c j) ⟨by simp; omega, ?_⟩ (by simp; omega)) rfl rfl
      rw [he, e, upFrom, if_pos hj]
      simp
    · rename_i hj hlt
      refine r_freeze 5 rfl ?_
      refine r_ret Tryz.func21 _ (res_one rfl rfl) ⟨?_, rfl⟩
      have e : c.tokens.length - out.length = 0 := by omega
      rw [he, e, upFrom]; simp [ints]
    · rename_i hj
      refine r_freeze 5 rfl ?_
      refine r_ret Tryz.func21 _ (res_one rfl rfl) ⟨?_, rfl⟩
      rw [he]
      cases c.tokens.length - out.length <;> simp [upFrom, hj, ints]
end Go.Proofs.YtonhfccmeammbaaGreatDoor
namespace Go.Proofs.YtonhfccmeammbaaGreatDoor
open Go.Ab
attribute [local irreducible] Run Ops Op1 Does Val Tr PureF Eff1

/-- the first place of a number, from a place on -/
def indexOf (l : List Int) (x : Int) : Int := match l.findIdx? (· == x) with
  | some i => i
  | none => -1

theorem index_s (l : List Int) (x : Int) (hl : l.length ≤ 1000000) : PureF Tryz.prog 110 [.d (ints l), I .i64 x] (I .i64 (indexOf l x)) := by
  refine pure_of fun H => ?_
  refine spec_of Tryz.func110 (by kernel_rfl) rfl (by simp) ?_
  dsimp only [Tryz.f110]
  repeat' (first | (refine k_op1 ?_; (first | refine o_sv rfl (by decide) ?_ | (refine k_blt ?_; (refine o_val (v_lenm rfl) rfl rfl (by decide) ?_)))) | (refine k_ops ?_; (first | refine o_go (by first | exact .inl rfl | exact .inr ⟨_, _, _, rfl, rfl, rfl⟩) ?_ | refine o_nil ?_)) | (refine k_run ?_; (first | refine r_seq ?_ | refine r_region ?_ | refine r_block ?_)))
  refine r_loop ?_
  refine r_less (r_inv (fun k : Nat => ⟨19, [(0, .d (ints l)), (1, I .i64 x), (7, I .i64 l.length), (8, I .i64 k)], [], H⟩) (fun k => k ≤ l.length ∧ ∀ j < k, l[j]? ≠ some x) (fun k => l.length - k) ?_ 0 ⟨by omega, by simp⟩) rfl rfl
  intro k ⟨hk, hno⟩ ih
  by_cases hlt : k < l.length
  · obtain ⟨y, hy⟩ : ∃ y, l[k]? = some y := ⟨_, List.getElem?_eq_getElem hlt⟩
    repeat' (first | (refine k_op1 ?_; (first | refine o_sv rfl (by decide) ?_ | (refine k_load ?_; (refine o_val (v_loade rfl rfl rfl) rfl rfl (by decide) ?_)) | (refine k_index ?_; (refine o_val (v_index rfl (by omega) (idx hy) rfl) rfl rfl (by decide) ?_)) | (refine k_bin ?_; (refine o_val (v_add (wi64 (by omega) (by omega))) rfl rfl (by decide) ?_)))) | (refine k_ops ?_; (first | refine o_go (by first | exact .inl rfl | exact .inr ⟨_, _, _, rfl, rfl, rfl⟩) ?_ | refine o_nil ?_)) | (refine k_run ?_; (first | refine r_seq ?_ | refine r_region ?_ | refine r_skip ?_ | refine r_block ?_ | refine r_inBlock ?_ | refine r_if rfl (fun _ => ?_) (fun _ => ?_) | refine r_exit rfl ?_)))
    · refine r_ret Tryz.func110 _ (res_one rfl rfl) ⟨?_, rfl⟩
      rename_i h1 h2
      subst h2
      have : l.findIdx? (· == x) = some k := by
        rw [List.findIdx?_eq_some_iff_getElem]
        refine ⟨hlt, by rw [List.getElem?_eq_getElem hlt] at hy; simpa using hy, fun j hj => ?_⟩
        have := hno j hj
        rw [List.getElem?_eq_getElem (by omega)] at this
        simpa using this
      simp [indexOf, this]
    · refine r_less (ih (k + 1) ⟨by omega, ?_⟩ (by omega)) rfl rfl
      intro j hj
      by_cases e : j = k
      · subst e; rw [hy]; intro h; simp at h; simp_all
      · exact hno j (by omega)
    · rename_i h1
      omega
  · repeat' (first | (refine k_op1 ?_; (refine o_sv rfl (by decide) ?_)) | (refine k_ops ?_; (first | refine o_go (by first | exact .inl rfl | exact .inr ⟨_, _, _, rfl, rfl, rfl⟩) ?_ | refine o_nil ?_)) | (refine k_run ?_; (first | refine r_seq ?_ | refine r_region ?_ | refine r_skip ?_ | refine r_block ?_ | refine r_if rfl (fun _ => ?_) (fun _ => ?_) | refine r_exit rfl ?_)))
    · rename_i h1
      omega
    · refine r_ret Tryz.func110 _ (res_one rfl rfl) ⟨?_, rfl⟩
      have : l.findIdx? (· == x) = none := by
        rw [List.findIdx?_eq_none_iff]
        intro y hy
        obtain ⟨j, hj⟩ := List.getElem?_of_mem hy
        have := hno j (by have := (List.getElem?_eq_some_iff.1 hj).1; omega)
        rw [hj] at this
        simpa using this
      simp [indexOf, this]

theorem indexOf_iff (l : List Int) (x : Int) : 0 ≤ indexOf l x ↔ x ∈ l := by
  unfold indexOf
  split
  · rename_i i h
    rw [List.findIdx?_eq_some_iff_getElem] at h
    obtain ⟨h1, h2, _⟩ := h
    simp at h2
    exact ⟨fun _ => h2 ▸ List.getElem_mem h1, fun _ => by omega⟩
  · rename_i h
    rw [List.findIdx?_eq_none_iff] at h
    exact ⟨fun hh => by omega, fun hx => by simpa using h x hx⟩

theorem contains_s (l : List Int) (x : Int) (hl : l.length ≤ 1000000) : PureF Tryz.prog 84 [.d (ints l), I .i64 x] (B (inB l x)) := by
  refine pure_of fun H => ?_
  refine spec_of Tryz.func84 (by kernel_rfl) rfl (by simp) ?_
  dsimp only [Tryz.f84]
  repeat' (first | (refine k_op1 ?_; (first | refine o_sv rfl (by decide) ?_ | (refine k_call ?_; (refine o_fn (index_s _ _ hl) rfl (by decide) ?_)))) | (refine k_ops ?_; (first | refine o_go (by first | exact .inl rfl | exact .inr ⟨_, _, _, rfl, rfl, rfl⟩) ?_ | refine o_nil ?_)) | (refine k_run ?_; (first | refine r_seq ?_ | refine r_region ?_)))
  refine r_ret Tryz.func84 _ (res_one rfl rfl) ⟨?_, rfl⟩
  simp [inB, indexOf_iff]
end Go.Proofs.YtonhfccmeammbaaGreatDoor
namespace Go.Proofs.YtonhfccmeammbaaGreatDoor
open Go.Ab
attribute [local irreducible] Run Ops Op1 Does Val Tr PureF Eff1

/-- the numbers below n with a property -/
def sel (n : Nat) (p : Nat → Bool) : List Int := ((List.range n).filter p).map fun (k : Nat) => (k : Int)
theorem sel_succ (n : Nat) (p : Nat → Bool) : sel (n + 1) p = sel n p ++ (if p n then [(n : Int)] else []) := by
  simp only [sel, List.range_succ, List.filter_append, List.map_append]
  by_cases h : p n <;> simp [h]
theorem sel_len (n : Nat) (p : Nat → Bool) : (sel n p).length ≤ n := by
  have := List.length_filter_le p (List.range n)
  simpa [sel] using this
theorem sel_yes {n : Nat} {p : Nat → Bool} (h : p n = true) : sel (n + 1) p = sel n p ++ [(n : Int)] := by rw [sel_succ, if_pos h]
theorem sel_no {n : Nat} {p : Nat → Bool} (h : p n = false) : sel (n + 1) p = sel n p := by rw [sel_succ, if_neg (by simp [h])]; simp

def down (c : Corpus) (i : Int) : List Int := if token c i then sel c.tokens.length (fun k => head c k == i) else []
def under (c : Corpus) (i : Int) : List Int := if token c i then sel c.tokens.length (fun k => ((k : Int) == i) || inB (up c k) i) else []
theorem up_len (c : Corpus) (i : Int) : (up c i).length ≤ c.tokens.length := by
  have : ∀ n j, (upFrom c n j).length ≤ n := fun n => by
    induction n with
    | zero => intro j; simp [upFrom]
    | succ n ih => intro j; simp only [upFrom]; split <;> simp [ih]
  simp only [up]; split <;> simp [this]

theorem down_s (c : Corpus) (i : Int) (hc : c.tokens.length ≤ 1000000) : PureF Tryz.prog 43 [c.d, I .i64 i] (.d (ints (down c i))) := by
  refine pure_of fun H => ?_
  refine spec_of Tryz.func43 (by kernel_rfl) rfl (by simp) ?_
  dsimp only [Tryz.f43]
  repeat' (first | (refine k_op1 ?_; (first | refine o_nil_row rfl rfl rfl (by decide) ?_ | refine o_sv rfl (by decide) ?_ | (refine k_load ?_; (first | refine o_val (v_loada rfl rfl rfl) rfl rfl (by decide) ?_ | refine o_val (v_load rfl rfl rfl rfl) rfl rfl (by decide) ?_)) | (refine k_field ?_; (refine o_val (v_field rfl rfl) rfl rfl (by decide) ?_)) | (refine k_blt ?_; (refine o_val (v_lenm rfl) rfl rfl (by decide) ?_)) | (refine k_call ?_; (refine o_fn (token_s _ _) rfl (by decide) ?_)) | (refine k_box ?_; (refine o_does (d_box_d rfl rfl (by decide)) ?_)))) | (refine k_ops ?_; (first | refine o_go (by first | exact .inl rfl | exact .inr ⟨_, _, _, rfl, rfl, rfl⟩) ?_ | refine o_nil ?_)) | (refine k_run ?_; (first | refine r_seq ?_ | refine r_region ?_ | refine r_skip ?_ | refine r_block ?_ | refine r_cond rfl (fun _ => ?_) (fun _ => ?_))))
  · refine r_nil 4 rfl ?_
    refine r_ret Tryz.func43 _ (res_one rfl rfl) ⟨?_, rfl⟩
    simp_all [down, ints]
  · have ht : token c i = true := by simp_all
    refine r_loop ?_
    refine r_less (r_inv (fun k : Nat => ⟨28, [(1, I .i64 i), (2, .ptr (0, 2) 0), (5, .ref (0, 5)), (13, I .i64 c.tokens.length), (14, I .i64 k)], [(5, .row 3 1 ((sel k (fun k => head c k == i)).map fun x => [Dint x])), (2, .box (c.cs.map .d))], H⟩)
      (fun k => k ≤ c.tokens.length) (fun k => c.tokens.length - k) ?_ 0 (by omega)) rfl rfl
    intro k hk ih
    have hlen := sel_len k (fun k => head c k == i)
    repeat' (first | (refine k_op1 ?_; (first | refine o_sv rfl (by decide) ?_ | (refine k_load ?_; (refine o_val (v_loada rfl rfl rfl) rfl rfl (by decide) ?_)) | (refine k_bin ?_; (refine o_val (v_add (wi64 (by omega) (by omega))) rfl rfl (by decide) ?_)) | (refine k_blt ?_; (refine o_app1 rfl rfl _ rfl rfl rfl rfl rfl rfl rfl (by decide) (by omega) ?_)) | (refine k_call ?_; (refine o_fn (head_s _ _ (by omega)) rfl (by decide) ?_)) | (refine k_lit ?_; (refine o_lit rfl rfl rfl rfl rfl rfl rfl rfl (by decide) ?_)))) | (refine k_ops ?_; (first | refine o_go (by first | exact .inl rfl | exact .inr ⟨_, _, _, rfl, rfl, rfl⟩) ?_ | refine o_nil ?_)) | (refine k_run ?_; (first | refine r_seq ?_ | refine r_region ?_ | refine r_skip ?_ | refine r_block ?_ | refine r_inBlock ?_ | refine r_if rfl (fun _ => ?_) (fun _ => ?_) | refine r_exit rfl ?_)))
    · rename_i hj hlt
      refine r_ren 25 5 rfl rfl ?_
      rw [← sel_yes (p := fun k => head c k == i) (by simpa using hlt)]
      exact r_less (ih (k + 1) (by omega) (by omega)) rfl rfl
    · rename_i hj hlt
      rw [← sel_no (n := k) (p := fun k => head c k == i) (by simpa using hlt)]
      exact r_less (ih (k + 1) (by omega) (by omega)) rfl rfl
    · rename_i hj
      have e : k = c.tokens.length := by omega
      subst e
      refine r_freeze 5 rfl ?_
      refine r_ret Tryz.func43 _ (res_one rfl rfl) ⟨?_, rfl⟩
      simp [down, ht, ints]
end Go.Proofs.YtonhfccmeammbaaGreatDoor
namespace Go.Proofs.YtonhfccmeammbaaGreatDoor
open Go.Ab
attribute [local irreducible] Run Ops Op1 Does Val Tr PureF Eff1

theorem under_s (c : Corpus) (i : Int) (hc : c.tokens.length ≤ 1000000) : PureF Tryz.prog 44 [c.d, I .i64 i] (.d (ints (under c i))) := by
  refine pure_of fun H => ?_
  refine spec_of Tryz.func44 (by kernel_rfl) rfl (by simp) ?_
  dsimp only [Tryz.f44]
  repeat' (first | (refine k_op1 ?_; (first | refine o_nil_row rfl rfl rfl (by decide) ?_ | refine o_sv rfl (by decide) ?_ | (refine k_load ?_; (first | refine o_val (v_loada rfl rfl rfl) rfl rfl (by decide) ?_ | refine o_val (v_load rfl rfl rfl rfl) rfl rfl (by decide) ?_)) | (refine k_field ?_; (refine o_val (v_field rfl rfl) rfl rfl (by decide) ?_)) | (refine k_blt ?_; (refine o_val (v_lenm rfl) rfl rfl (by decide) ?_)) | (refine k_call ?_; (refine o_fn (token_s _ _) rfl (by decide) ?_)) | (refine k_box ?_; (refine o_does (d_box_d rfl rfl (by decide)) ?_)))) | (refine k_ops ?_; (first | refine o_go (by first | exact .inl rfl | exact .inr ⟨_, _, _, rfl, rfl, rfl⟩) ?_ | refine o_nil ?_)) | (refine k_run ?_; (first | refine r_seq ?_ | refine r_region ?_ | refine r_skip ?_ | refine r_block ?_ | refine r_cond rfl (fun _ => ?_) (fun _ => ?_))))
  · refine r_nil 4 rfl ?_
    refine r_ret Tryz.func44 _ (res_one rfl rfl) ⟨?_, rfl⟩
    simp_all [under, ints]
  · have ht : token c i = true := by simp_all
    refine r_loop ?_
    refine r_less (r_inv (fun k : Nat => ⟨33, [(1, I .i64 i), (2, .ptr (0, 2) 0), (5, .ref (0, 5)), (13, I .i64 c.tokens.length), (14, I .i64 k)], [(5, .row 3 1 ((sel k (fun k => ((k : Int) == i) || inB (up c k) i)).map fun x => [Dint x])), (2, .box (c.cs.map .d))], H⟩)
      (fun k => k ≤ c.tokens.length) (fun k => c.tokens.length - k) ?_ 0 (by omega)) rfl rfl
    intro k hk ih
    have hlen := sel_len k (fun k => ((k : Int) == i) || inB (up c k) i)
    have hup := up_len c k
    repeat' (first | (refine k_op1 ?_; (first | refine o_sv rfl (by decide) ?_ | (refine k_load ?_; (refine o_val (v_loada rfl rfl rfl) rfl rfl (by decide) ?_)) | (refine k_bin ?_; (refine o_val (v_add (wi64 (by omega) (by omega))) rfl rfl (by decide) ?_)) | (refine k_blt ?_; (refine o_app1 rfl rfl _ rfl rfl rfl rfl rfl rfl rfl (by decide) (by omega) ?_)) | (refine k_call ?_; (first | refine o_fn (up_s _ _ hc) rfl (by decide) ?_ | refine o_fn (contains_s _ _ (by omega)) rfl (by decide) ?_)) | (refine k_lit ?_; (refine o_lit rfl rfl rfl rfl rfl rfl rfl rfl (by decide) ?_)))) | (refine k_ops ?_; (first | refine o_go (by first | exact .inl rfl | exact .inr ⟨_, _, _, rfl, rfl, rfl⟩) ?_ | refine o_nil ?_ | refine o_no rfl rfl (by decide) ?_ | refine o_casep rfl rfl (fun _ => ?_) (fun _ => ?_))) | (refine k_run ?_; (first | refine r_seq ?_ | refine r_region ?_ | refine r_true rfl ?_ | refine r_skip ?_ | refine r_block ?_ | refine r_inBlock ?_ | refine r_if rfl (fun _ => ?_) (fun _ => ?_) | refine r_exit rfl ?_)))
    · rename_i hj hki
      refine r_ren 30 5 rfl rfl ?_
      rw [← sel_yes (p := fun k => ((k : Int) == i) || inB (up c k) i) (by simp [hki])]
      exact r_less (ih (k + 1) (by omega) (by omega)) rfl rfl
    · rename_i hj hki hin
      refine r_ren 30 5 rfl rfl ?_
      rw [← sel_yes (p := fun k => ((k : Int) == i) || inB (up c k) i) (by simp [inB, hin])]
      exact r_less (ih (k + 1) (by omega) (by omega)) rfl rfl
    · rename_i hj hki hin
      rw [← sel_no (n := k) (p := fun k => ((k : Int) == i) || inB (up c k) i) (by simp [inB, hin, hki])]
      exact r_less (ih (k + 1) (by omega) (by omega)) rfl rfl
    · rename_i hj
      have e : k = c.tokens.length := by omega
      subst e
      refine r_freeze 5 rfl ?_
      refine r_ret Tryz.func44 _ (res_one rfl rfl) ⟨?_, rfl⟩
      simp [under, ht, ints]
end Go.Proofs.YtonhfccmeammbaaGreatDoor
namespace Go.Proofs.YtonhfccmeammbaaGreatDoor
open Go.Ab

/-- what all corpora that are made have -/
structure Wf (c : Corpus) : Prop where
  tok : c.tokens.length ≤ 1000
  tok0 : 0 < c.tokens.length
  rel : c.rels.length = c.heads.length
  hd : c.heads = [] ∨ c.heads.length = c.tokens.length
  acyc : ∃ rank : Nat → Nat, ∀ (i : Nat) (h : Int), c.heads[i]? = some h → h = -1 ∨ (0 ≤ h ∧ h.toNat < c.tokens.length ∧ rank h.toNat < rank i ∧ rank i < c.tokens.length)

theorem token_iff (c : Corpus) (i : Int) : token c i = true ↔ 0 ≤ i ∧ i < c.tokens.length := by simp [token]

theorem head_cases {c : Corpus} (h : Wf c) {i : Int} (hi : 0 ≤ i) : head c i = -1 ∨ token c (head c i) = true := by
  unfold head
  split
  · split
    · rename_i h1; exact .inr h1
    · exact .inl rfl
  · exact .inl rfl

/-- a rank of the tokens that falls on the way up -/
theorem rank_of {c : Corpus} (h : Wf c) : ∃ rank : Nat → Nat, ∀ i : Int, 0 ≤ i → head c i = -1 ∨ (token c (head c i) = true ∧ rank (head c i).toNat < rank i.toNat ∧ rank i.toNat < c.tokens.length) := by
  obtain ⟨rank, hr⟩ := h.acyc
  refine ⟨rank, fun i hi => ?_⟩
  rcases head_cases h hi with h1 | h1
  · exact .inl h1
  · have hne : head c i ≠ -1 := fun e => by rw [e] at h1; simp [token] at h1
    cases hq : c.heads[i.toNat]? with
    | none => simp [head, hq] at hne
    | some x =>
      have hx : head c i = x := by
        simp only [head, hq] at hne ⊢
        split
        · rfl
        · rename_i h2; simp [h2] at hne
      rw [hx] at h1 ⊢
      rcases hr _ _ hq with e | ⟨a, b, d, e⟩
      · exact .inl e
      · exact .inr ⟨h1, d, e⟩

theorem upFrom_stab {c : Corpus} {rank : Nat → Nat} (hr : ∀ i : Int, 0 ≤ i → head c i = -1 ∨ (token c (head c i) = true ∧ rank (head c i).toNat < rank i.toNat ∧ rank i.toNat < c.tokens.length)) :
    ∀ (n m : Nat) (i : Int), (i = -1 ∨ (0 ≤ i ∧ rank i.toNat < n ∧ rank i.toNat < m)) → upFrom c n i = upFrom c m i := by
  intro n
  induction n with
  | zero =>
    intro m i hi
    rcases hi with rfl | ⟨_, h, _⟩
    · cases m <;> simp [upFrom]
    · omega
  | succ n ih =>
    intro m i hi
    rcases hi with rfl | ⟨h0, h1, h2⟩
    · cases m <;> simp [upFrom]
    · cases m with
      | zero => omega
      | succ m =>
        simp only [upFrom, h0, if_true]
        congr 1
        refine ih m _ ?_
        rcases hr i h0 with h | ⟨h, h', _⟩
        · exact .inl h
        · rw [token_iff] at h
          exact .inr ⟨h.1, by omega, by omega⟩

/-- the way up, one step at a time -/
theorem up_step {c : Corpus} (h : Wf c) {i : Int} (hi : token c i = true) : up c i = if head c i = -1 then [] else head c i :: up c (head c i) := by
  obtain ⟨rank, hr⟩ := rank_of h
  have h0 := ((token_iff c i).1 hi).1
  simp only [up, hi, if_true]
  rcases hr i h0 with h1 | ⟨h1, h2, h3⟩
  · rw [h1]
    obtain ⟨n, hn⟩ : ∃ n, c.tokens.length = n + 1 := ⟨c.tokens.length - 1, by have := h.tok0; omega⟩
    rw [hn]; simp [upFrom]
  · have hh := (token_iff c _).1 h1
    have hne : head c i ≠ -1 := by omega
    rw [if_neg hne, h1, if_pos rfl]
    obtain ⟨n, hn⟩ : ∃ n, c.tokens.length = n + 1 := ⟨c.tokens.length - 1, by have := h.tok0; omega⟩
    rw [hn, upFrom, if_pos hh.1, ← hn]
    congr 1
    refine upFrom_stab hr _ _ _ ?_
    rcases hr _ hh.1 with h4 | ⟨h4, h5, _⟩
    · exact .inl h4
    · exact .inr ⟨((token_iff c _).1 h4).1, by omega, by omega⟩
theorem up_none {c : Corpus} {i : Int} (hi : token c i = false) : up c i = [] := by simp [up, hi]

/-- a measure for walking up -/
def depth (c : Corpus) (i : Int) : Nat := (up c i).length
theorem depth_step {c : Corpus} (h : Wf c) {i : Int} (hi : token c i = true) (hn : head c i ≠ -1) : depth c i = depth c (head c i) + 1 := by
  simp [depth, up_step h hi, hn]
theorem head_token {c : Corpus} (h : Wf c) {i : Int} (hi : 0 ≤ i) (hn : head c i ≠ -1) : token c (head c i) = true := by
  rcases head_cases h hi with e | e
  · exact absurd e hn
  · exact e
end Go.Proofs.YtonhfccmeammbaaGreatDoor
namespace Go.Proofs.YtonhfccmeammbaaGreatDoor
open Go.Ab
attribute [local irreducible] Run Ops Op1 Does Val Tr PureF Eff1

def relAt (c : Corpus) (i : Int) : Str := match c.rels[i.toNat]? with
  | some r => r
  | none => ⟨#[]⟩

end Go.Proofs.YtonhfccmeammbaaGreatDoor
namespace Go.Proofs.YtonhfccmeammbaaGreatDoor
open Go.Ab
attribute [local irreducible] Run Ops Op1 Does Val Tr PureF Eff1

def upOf (c : Corpus) (h : Int) : List Int := if h = -1 then [] else h :: up c h
theorem up_upOf {c : Corpus} (h : Wf c) {i : Int} (hi : token c i = true) : up c i = upOf c (head c i) := by rw [up_step h hi]; rfl

end Go.Proofs.YtonhfccmeammbaaGreatDoor
namespace Go.Proofs.YtonhfccmeammbaaGreatDoor
open Go.Ab
attribute [local irreducible] Run Ops Op1 Does Val Tr PureF Eff1

def modv (x n : Int) : Int := if n < 1 then 0 else x % n
theorem modv_range {x n : Int} (h : 1 ≤ n) : 0 ≤ modv x n ∧ modv x n < n := by
  simp only [modv, if_neg (show ¬ n < 1 by omega)]
  exact ⟨Int.emod_nonneg _ (by omega), Int.emod_lt_of_pos _ (by omega)⟩
theorem tmod_mod {x n : Int} (hn : 0 < n) : x.tmod n = if x % n = 0 then 0 else if x < 0 then x % n - n else x % n := by
  have h1 := Int.tmod_eq_emod (a := x) (b := n)
  rw [h1]
  have h0 := Int.emod_nonneg x (show n ≠ 0 by omega)
  by_cases hd : n ∣ x
  · have : x % n = 0 := Int.emod_eq_zero_of_dvd hd
    simp [this, hd]
  · have : x % n ≠ 0 := fun e => hd (Int.dvd_of_emod_eq_zero e)
    by_cases hx : x < 0
    · have : ¬ 0 ≤ x := by omega
      simp [*]; omega
    · have : 0 ≤ x := by omega
      simp [*]

theorem mod_s (x n : Int) (hn : -9223372036854775808 ≤ n ∧ n ≤ 9223372036854775807) : PureF Tryz.prog 17 [I .i64 x, I .i64 n] (I .i64 (modv x n)) := by
  refine pure_of fun H => ?_
  refine spec_of Tryz.func17 (by kernel_rfl) rfl (by simp) ?_
  dsimp only [Tryz.f17]
  by_cases hn1 : n < 1
  · repeat' (first | (refine k_op1 ?_; (refine o_sv rfl (by decide) ?_)) | (refine k_ops ?_; (first | refine o_go (by first | exact .inl rfl | exact .inr ⟨_, _, _, rfl, rfl, rfl⟩) ?_ | refine o_nil ?_)) | (refine k_run ?_; (first | refine r_seq ?_ | refine r_region ?_ | refine r_skip ?_ | refine r_if rfl (fun _ => ?_) (fun _ => ?_))))
    · refine r_ret Tryz.func17 _ (res_one rfl rfl) ⟨?_, rfl⟩
      simp [modv, hn1]
    · omega
  · have h0 := Int.emod_nonneg x (show n ≠ 0 by omega)
    have h1 := Int.emod_lt_of_pos x (show 0 < n by omega)
    have ht := tmod_mod (x := x) (n := n) (by omega)
    have hb : -n < x.tmod n ∧ x.tmod n < n := by rw [ht]; split <;> (try split) <;> omega
    repeat' (first | (refine k_op1 ?_; (first | refine o_sv rfl (by decide) ?_ | (refine k_bin ?_; (first | refine o_val (v_trem (by omega)) rfl rfl (by decide) ?_ | refine o_val (v_add (wi64 (by omega) (by omega))) rfl rfl (by decide) ?_)))) | (refine k_ops ?_; (first | refine o_go (by first | exact .inl rfl | exact .inr ⟨_, _, _, rfl, rfl, rfl⟩) ?_ | refine o_nil ?_)) | (refine k_run ?_; (first | refine r_seq ?_ | refine r_region ?_ | refine r_skip ?_ | refine r_if rfl (fun _ => ?_) (fun _ => ?_))))
    · omega
    · rename_i hneg
      refine r_ret Tryz.func17 _ (res_one rfl rfl) ⟨?_, rfl⟩
      have : x.tmod n + n = x % n := by rw [ht] at hneg ⊢; split at hneg <;> (try split at hneg) <;> simp_all <;> omega
      simp [modv, hn1, this]
    · rename_i hneg
      refine r_ret Tryz.func17 _ (res_one rfl rfl) ⟨?_, rfl⟩
      have : x.tmod n = x % n := by rw [ht] at hneg ⊢; split at hneg <;> (try split at hneg) <;> simp_all <;> omega
      simp [modv, hn1, this]
end Go.Proofs.YtonhfccmeammbaaGreatDoor
