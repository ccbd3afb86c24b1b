/- What the first functions compute, for every input. -/
import Derived.Test.YtfpdfcjohminlaaFa
import Derived.Test.YtfpdfcjohminlaaProg
import Derived.Test.YtfpdfcjohminlaaFc
set_option linter.all false
set_option linter.unusedVariables false
set_option linter.unusedSimpArgs false
namespace Go.Proofs.Ytfpdfcjohminlaa
open Go.Ab
instance T1 : HasT Try.prog 1 ⟨1, 8, .func, [], [.nilFunc]⟩ := ⟨by kernel_rfl⟩
instance T2 : HasT Try.prog 2 ⟨1, 8, (.int .i64), [], [.int .i64 0]⟩ := ⟨by kernel_rfl⟩
instance T3 : HasT Try.prog 3 ⟨1, 8, (.int .i64), [], [.int .i64 0]⟩ := ⟨by kernel_rfl⟩
instance T4 : HasT Try.prog 4 ⟨1, 1, .bool, [], [.bool false]⟩ := ⟨by kernel_rfl⟩
instance T5 : HasT Try.prog 5 ⟨1, 1, (.int .u8), [], [.int .u8 0]⟩ := ⟨by kernel_rfl⟩
instance T6 : HasT Try.prog 6 ⟨1, 1, (.int .u8), [], [.int .u8 0]⟩ := ⟨by kernel_rfl⟩
instance T7 : HasT Try.prog 7 ⟨4, 24, .struct, [(0, 1), (1, 1), (2, 1), (3, 1)], [.int .i64 0, .int .i64 0, .bool false, .int .u8 0]⟩ := ⟨by kernel_rfl⟩
instance T8 : HasT Try.prog 8 ⟨4, 24, .struct, [(0, 1), (1, 1), (2, 1), (3, 1)], [.int .i64 0, .int .i64 0, .bool false, .int .u8 0]⟩ := ⟨by kernel_rfl⟩
instance T9 : HasT Try.prog 9 ⟨1, 16, .str, [], [.string ⟨#[]⟩]⟩ := ⟨by kernel_rfl⟩
instance T10 : HasT Try.prog 10 ⟨1, 16, .str, [], [.string ⟨#[]⟩]⟩ := ⟨by kernel_rfl⟩
instance T11 : HasT Try.prog 11 ⟨1, 16, .str, [], [.string ⟨#[]⟩]⟩ := ⟨by kernel_rfl⟩
instance T12 : HasT Try.prog 12 ⟨1, 8, (.int .u64), [], [.int .u64 0]⟩ := ⟨by kernel_rfl⟩
instance T13 : HasT Try.prog 13 ⟨2, 24, .struct, [(0, 1), (1, 1)], [.string ⟨#[]⟩, .int .u64 0]⟩ := ⟨by kernel_rfl⟩
instance T14 : HasT Try.prog 14 ⟨2, 24, .struct, [(0, 1), (1, 1)], [.string ⟨#[]⟩, .int .u64 0]⟩ := ⟨by kernel_rfl⟩
instance T15 : HasT Try.prog 15 ⟨1, 8, (.ptr 107), [], [.pointer none]⟩ := ⟨by kernel_rfl⟩
instance T16 : HasT Try.prog 16 ⟨1, 8, (.ptr 110), [], [.pointer none]⟩ := ⟨by kernel_rfl⟩
instance T17 : HasT Try.prog 17 ⟨1, 8, (.ptr 120), [], [.pointer none]⟩ := ⟨by kernel_rfl⟩
instance T18 : HasT Try.prog 18 ⟨1, 8, .struct, [(0, 1)], [.pointer none]⟩ := ⟨by kernel_rfl⟩
instance T19 : HasT Try.prog 19 ⟨1, 8, .struct, [(0, 1)], [.pointer none]⟩ := ⟨by kernel_rfl⟩
instance T20 : HasT Try.prog 20 ⟨1, 16, .other, [], [.nilIface]⟩ := ⟨by kernel_rfl⟩
instance T21 : HasT Try.prog 21 ⟨1, 4, (.int .i32), [], [.int .i32 0]⟩ := ⟨by kernel_rfl⟩
instance T22 : HasT Try.prog 22 ⟨1, 24, (.slice 3), [], [nilS]⟩ := ⟨by kernel_rfl⟩
instance T23 : HasT Try.prog 23 ⟨1, 24, (.slice 63), [], [nilS]⟩ := ⟨by kernel_rfl⟩
instance T24 : HasT Try.prog 24 ⟨1, 24, (.slice 28), [], [nilS]⟩ := ⟨by kernel_rfl⟩
instance T25 : HasT Try.prog 25 ⟨1, 24, (.slice 66), [], [nilS]⟩ := ⟨by kernel_rfl⟩
instance T26 : HasT Try.prog 26 ⟨1, 24, (.slice 72), [], [nilS]⟩ := ⟨by kernel_rfl⟩
instance T27 : HasT Try.prog 27 ⟨1, 24, (.slice 41), [], [nilS]⟩ := ⟨by kernel_rfl⟩
instance T28 : HasT Try.prog 28 ⟨1, 24, (.slice 9), [], [nilS]⟩ := ⟨by kernel_rfl⟩
instance T29 : HasT Try.prog 29 ⟨7, 168, .struct, [(0, 1), (1, 1), (2, 1), (3, 1), (4, 1), (5, 1), (6, 1)], [nilS, nilS, nilS, nilS, nilS, nilS, nilS]⟩ := ⟨by kernel_rfl⟩
instance T30 : HasT Try.prog 30 ⟨7, 168, .struct, [(0, 1), (1, 1), (2, 1), (3, 1), (4, 1), (5, 1), (6, 1)], [nilS, nilS, nilS, nilS, nilS, nilS, nilS]⟩ := ⟨by kernel_rfl⟩
instance T31 : HasT Try.prog 31 ⟨1, 8, (.ptr 52), [], [.pointer none]⟩ := ⟨by kernel_rfl⟩
instance T32 : HasT Try.prog 32 ⟨1, 8, .func, [], [.nilFunc]⟩ := ⟨by kernel_rfl⟩
instance T33 : HasT Try.prog 33 ⟨1, 8, .func, [], [.nilFunc]⟩ := ⟨by kernel_rfl⟩
instance T34 : HasT Try.prog 34 ⟨1, 8, .func, [], [.nilFunc]⟩ := ⟨by kernel_rfl⟩
instance T35 : HasT Try.prog 35 ⟨1, 8, .func, [], [.nilFunc]⟩ := ⟨by kernel_rfl⟩
instance T36 : HasT Try.prog 36 ⟨1, 8, .func, [], [.nilFunc]⟩ := ⟨by kernel_rfl⟩
instance T37 : HasT Try.prog 37 ⟨1, 8, .func, [], [.nilFunc]⟩ := ⟨by kernel_rfl⟩
instance T38 : HasT Try.prog 38 ⟨1, 8, .func, [], [.nilFunc]⟩ := ⟨by kernel_rfl⟩
instance T39 : HasT Try.prog 39 ⟨1, 8, (.map 3 4), [], [.map none]⟩ := ⟨by kernel_rfl⟩
instance T40 : HasT Try.prog 40 ⟨4, 40, .struct, [(0, 1), (1, 1), (2, 1), (3, 1)], [.string ⟨#[]⟩, .int .i64 0, .int .i64 0, .int .i64 0]⟩ := ⟨by kernel_rfl⟩
instance T41 : HasT Try.prog 41 ⟨4, 40, .struct, [(0, 1), (1, 1), (2, 1), (3, 1)], [.string ⟨#[]⟩, .int .i64 0, .int .i64 0, .int .i64 0]⟩ := ⟨by kernel_rfl⟩
instance T42 : HasT Try.prog 42 ⟨1, 8, .func, [], [.nilFunc]⟩ := ⟨by kernel_rfl⟩
instance T44 : HasT Try.prog 44 ⟨1, 8, .func, [], [.nilFunc]⟩ := ⟨by kernel_rfl⟩
instance T45 : HasT Try.prog 45 ⟨1, 8, .func, [], [.nilFunc]⟩ := ⟨by kernel_rfl⟩
instance T46 : HasT Try.prog 46 ⟨1, 8, .func, [], [.nilFunc]⟩ := ⟨by kernel_rfl⟩
instance T47 : HasT Try.prog 47 ⟨1, 8, .func, [], [.nilFunc]⟩ := ⟨by kernel_rfl⟩
instance T48 : HasT Try.prog 48 ⟨1, 8, .func, [], [.nilFunc]⟩ := ⟨by kernel_rfl⟩
instance T49 : HasT Try.prog 49 ⟨2, 16, .struct, [(0, 1), (1, 1)], [.int .i64 0, .int .i64 0]⟩ := ⟨by kernel_rfl⟩
instance T50 : HasT Try.prog 50 ⟨2, 16, .struct, [(0, 1), (1, 1)], [.int .i64 0, .int .i64 0]⟩ := ⟨by kernel_rfl⟩
instance T51 : HasT Try.prog 51 ⟨2, 32, .struct, [(0, 1), (1, 1)], [nilS, .int .i64 0]⟩ := ⟨by kernel_rfl⟩
instance T52 : HasT Try.prog 52 ⟨2, 32, .struct, [(0, 1), (1, 1)], [nilS, .int .i64 0]⟩ := ⟨by kernel_rfl⟩
instance T53 : HasT Try.prog 53 ⟨1, 8, .func, [], [.nilFunc]⟩ := ⟨by kernel_rfl⟩
instance T54 : HasT Try.prog 54 ⟨1, 8, .func, [], [.nilFunc]⟩ := ⟨by kernel_rfl⟩
instance T55 : HasT Try.prog 55 ⟨1, 8, (.int .i64), [], [.int .i64 0]⟩ := ⟨by kernel_rfl⟩
instance T57 : HasT Try.prog 57 ⟨1, 8, .func, [], [.nilFunc]⟩ := ⟨by kernel_rfl⟩
instance T58 : HasT Try.prog 58 ⟨1, 8, .func, [], [.nilFunc]⟩ := ⟨by kernel_rfl⟩
instance T59 : HasT Try.prog 59 ⟨1, 8, .func, [], [.nilFunc]⟩ := ⟨by kernel_rfl⟩
instance T61 : HasT Try.prog 61 ⟨1, 8, .func, [], [.nilFunc]⟩ := ⟨by kernel_rfl⟩
instance T62 : HasT Try.prog 62 ⟨2, 24, .struct, [(0, 1), (1, 1)], [.string ⟨#[]⟩, .bool false]⟩ := ⟨by kernel_rfl⟩
instance T63 : HasT Try.prog 63 ⟨2, 24, .struct, [(0, 1), (1, 1)], [.string ⟨#[]⟩, .bool false]⟩ := ⟨by kernel_rfl⟩
instance T64 : HasT Try.prog 64 ⟨1, 24, (.slice 69), [], [nilS]⟩ := ⟨by kernel_rfl⟩
instance T65 : HasT Try.prog 65 ⟨4, 56, .struct, [(0, 1), (1, 1), (2, 1), (3, 1)], [.string ⟨#[]⟩, .int .i64 0, .int .i64 0, nilS]⟩ := ⟨by kernel_rfl⟩
instance T66 : HasT Try.prog 66 ⟨4, 56, .struct, [(0, 1), (1, 1), (2, 1), (3, 1)], [.string ⟨#[]⟩, .int .i64 0, .int .i64 0, nilS]⟩ := ⟨by kernel_rfl⟩
instance T67 : HasT Try.prog 67 ⟨1, 8, .func, [], [.nilFunc]⟩ := ⟨by kernel_rfl⟩
instance T68 : HasT Try.prog 68 ⟨2, 32, .struct, [(0, 1), (1, 1)], [.string ⟨#[]⟩, .string ⟨#[]⟩]⟩ := ⟨by kernel_rfl⟩
instance T69 : HasT Try.prog 69 ⟨2, 32, .struct, [(0, 1), (1, 1)], [.string ⟨#[]⟩, .string ⟨#[]⟩]⟩ := ⟨by kernel_rfl⟩
instance T70 : HasT Try.prog 70 ⟨1, 8, .func, [], [.nilFunc]⟩ := ⟨by kernel_rfl⟩
instance T71 : HasT Try.prog 71 ⟨4, 56, .struct, [(0, 1), (1, 1), (2, 1), (3, 1)], [.string ⟨#[]⟩, .int .i64 0, .int .i64 0, nilS]⟩ := ⟨by kernel_rfl⟩
instance T72 : HasT Try.prog 72 ⟨4, 56, .struct, [(0, 1), (1, 1), (2, 1), (3, 1)], [.string ⟨#[]⟩, .int .i64 0, .int .i64 0, nilS]⟩ := ⟨by kernel_rfl⟩
instance T73 : HasT Try.prog 73 ⟨1, 8, .func, [], [.nilFunc]⟩ := ⟨by kernel_rfl⟩
instance T74 : HasT Try.prog 74 ⟨1, 8, .func, [], [.nilFunc]⟩ := ⟨by kernel_rfl⟩
instance T75 : HasT Try.prog 75 ⟨1, 8, (.ptr 30), [], [.pointer none]⟩ := ⟨by kernel_rfl⟩
instance T76 : HasT Try.prog 76 ⟨1, 8, .func, [], [.nilFunc]⟩ := ⟨by kernel_rfl⟩
instance T77 : HasT Try.prog 77 ⟨1, 8, .func, [], [.nilFunc]⟩ := ⟨by kernel_rfl⟩
instance T78 : HasT Try.prog 78 ⟨1, 8, .func, [], [.nilFunc]⟩ := ⟨by kernel_rfl⟩
instance T80 : HasT Try.prog 80 ⟨1, 8, .func, [], [.nilFunc]⟩ := ⟨by kernel_rfl⟩
instance T81 : HasT Try.prog 81 ⟨1, 8, .func, [], [.nilFunc]⟩ := ⟨by kernel_rfl⟩
instance T82 : HasT Try.prog 82 ⟨1, 8, .func, [], [.nilFunc]⟩ := ⟨by kernel_rfl⟩
instance T84 : HasT Try.prog 84 ⟨1, 8, .func, [], [.nilFunc]⟩ := ⟨by kernel_rfl⟩
instance T85 : HasT Try.prog 85 ⟨1, 8, .func, [], [.nilFunc]⟩ := ⟨by kernel_rfl⟩
instance T86 : HasT Try.prog 86 ⟨1, 8, .func, [], [.nilFunc]⟩ := ⟨by kernel_rfl⟩
instance T88 : HasT Try.prog 88 ⟨1, 8, .func, [], [.nilFunc]⟩ := ⟨by kernel_rfl⟩
instance T89 : HasT Try.prog 89 ⟨1, 8, .func, [], [.nilFunc]⟩ := ⟨by kernel_rfl⟩
instance T90 : HasT Try.prog 90 ⟨1, 8, .func, [], [.nilFunc]⟩ := ⟨by kernel_rfl⟩
instance T91 : HasT Try.prog 91 ⟨1, 8, .func, [], [.nilFunc]⟩ := ⟨by kernel_rfl⟩
instance T92 : HasT Try.prog 92 ⟨1, 8, .func, [], [.nilFunc]⟩ := ⟨by kernel_rfl⟩
instance T93 : HasT Try.prog 93 ⟨1, 8, .func, [], [.nilFunc]⟩ := ⟨by kernel_rfl⟩
instance T94 : HasT Try.prog 94 ⟨1, 8, .func, [], [.nilFunc]⟩ := ⟨by kernel_rfl⟩
instance T95 : HasT Try.prog 95 ⟨1, 8, .func, [], [.nilFunc]⟩ := ⟨by kernel_rfl⟩
instance T96 : HasT Try.prog 96 ⟨1, 8, .func, [], [.nilFunc]⟩ := ⟨by kernel_rfl⟩
instance T98 : HasT Try.prog 98 ⟨1, 8, .func, [], [.nilFunc]⟩ := ⟨by kernel_rfl⟩
instance T99 : HasT Try.prog 99 ⟨1, 8, .func, [], [.nilFunc]⟩ := ⟨by kernel_rfl⟩
instance T100 : HasT Try.prog 100 ⟨1, 24, (.slice 5), [], [nilS]⟩ := ⟨by kernel_rfl⟩
instance T101 : HasT Try.prog 101 ⟨1, 24, (.slice 104), [], [nilS]⟩ := ⟨by kernel_rfl⟩
instance T102 : HasT Try.prog 102 ⟨1, 8, .func, [], [.nilFunc]⟩ := ⟨by kernel_rfl⟩
instance T103 : HasT Try.prog 103 ⟨4, 32, .struct, [(0, 1), (1, 1), (2, 1), (3, 1)], [.int .i32 0, .int .i64 0, .int .i64 0, .bool false]⟩ := ⟨by kernel_rfl⟩
instance T104 : HasT Try.prog 104 ⟨4, 32, .struct, [(0, 1), (1, 1), (2, 1), (3, 1)], [.int .i32 0, .int .i64 0, .int .i64 0, .bool false]⟩ := ⟨by kernel_rfl⟩
instance T105 : HasT Try.prog 105 ⟨1, 8, .func, [], [.nilFunc]⟩ := ⟨by kernel_rfl⟩
instance T106 : HasT Try.prog 106 ⟨4, 40, .struct, [(0, 1), (1, 1), (2, 1), (3, 1)], [.pointer none, .pointer none, .pointer none, .string ⟨#[]⟩]⟩ := ⟨by kernel_rfl⟩
instance T107 : HasT Try.prog 107 ⟨4, 40, .struct, [(0, 1), (1, 1), (2, 1), (3, 1)], [.pointer none, .pointer none, .pointer none, .string ⟨#[]⟩]⟩ := ⟨by kernel_rfl⟩
instance T108 : HasT Try.prog 108 ⟨0, 0, (.array 0 16), [], []⟩ := ⟨by kernel_rfl⟩
instance T109 : HasT Try.prog 109 ⟨0, 0, .struct, [(0, 0)], []⟩ := ⟨by kernel_rfl⟩
instance T110 : HasT Try.prog 110 ⟨0, 0, .struct, [(0, 0)], []⟩ := ⟨by kernel_rfl⟩
instance T111 : HasT Try.prog 111 ⟨1, 8, .func, [], [.nilFunc]⟩ := ⟨by kernel_rfl⟩
instance T112 : HasT Try.prog 112 ⟨1, 4, (.int .u32), [], [.int .u32 0]⟩ := ⟨by kernel_rfl⟩
instance T113 : HasT Try.prog 113 ⟨1, 1, (.int .u8), [], [.int .u8 0]⟩ := ⟨by kernel_rfl⟩
instance T114 : HasT Try.prog 114 ⟨1, 1, (.int .u8), [], [.int .u8 0]⟩ := ⟨by kernel_rfl⟩
instance T115 : HasT Try.prog 115 ⟨1, 8, .func, [], [.nilFunc]⟩ := ⟨by kernel_rfl⟩
instance T116 : HasT Try.prog 116 ⟨1, 8, (.ptr 5), [], [.pointer none]⟩ := ⟨by kernel_rfl⟩
instance T117 : HasT Try.prog 117 ⟨1, 4, (.int .i32), [], [.int .i32 0]⟩ := ⟨by kernel_rfl⟩
instance T118 : HasT Try.prog 118 ⟨1, 4, (.int .i32), [], [.int .i32 0]⟩ := ⟨by kernel_rfl⟩
instance T119 : HasT Try.prog 119 ⟨11, 48, .struct, [(0, 1), (1, 1), (2, 1), (3, 1), (4, 1), (5, 1), (6, 1), (7, 1), (8, 1), (9, 1), (10, 1)], [.int .u64 0, .int .u64 0, .int .u32 0, .int .u8 0, .int .u8 0, .int .u8 0, .int .u8 0, .nilFunc, .pointer none, .int .i32 0, .int .i32 0]⟩ := ⟨by kernel_rfl⟩
instance T120 : HasT Try.prog 120 ⟨11, 48, .struct, [(0, 1), (1, 1), (2, 1), (3, 1), (4, 1), (5, 1), (6, 1), (7, 1), (8, 1), (9, 1), (10, 1)], [.int .u64 0, .int .u64 0, .int .u32 0, .int .u8 0, .int .u8 0, .int .u8 0, .int .u8 0, .nilFunc, .pointer none, .int .i32 0, .int .i32 0]⟩ := ⟨by kernel_rfl⟩
instance T121 : HasT Try.prog 121 ⟨1, 8, .other, [], [.pointer none]⟩ := ⟨by kernel_rfl⟩
end Go.Proofs.Ytfpdfcjohminlaa
namespace Go.Proofs.Ytfpdfcjohminlaa
open Go.Ab
abbrev Str := ByteArray
abbrev Dstr (s : Str) : D := .lit (.string s)
abbrev Dint (x : Int) : D := .lit (.int .i64 x)
abbrev Dbool (b : Bool) : D := .lit (.bool b)
def ints (l : List Int) : D := .slice (l.map fun x => [Dint x])
def strs (l : List Str) : D := .slice (l.map fun x => [Dstr x])
structure Attr where
  name : Str
  set : Bool
structure Pair where
  name : Str
  value : Str
structure Text where
  name : Str
  b : Int
  e : Int
  meta_ : List Pair
structure Region where
  type : Str
  b : Int
  e : Int
  keys : List Pair
structure Node where
  label : Str
  b : Int
  e : Int
  parent : Int
structure Corpus where
  attrs : List Attr
  tokens : List (List Str)
  texts : List Text
  regions : List Region
  nodes : List Node
  heads : List Int
  rels : List Str
def Attr.cs (a : Attr) : List D := [Dstr a.name, Dbool a.set]
def Pair.cs (a : Pair) : List D := [Dstr a.name, Dstr a.value]
def Text.cs (a : Text) : List D := [Dstr a.name, Dint a.b, Dint a.e, .slice (a.meta_.map Pair.cs)]
def Region.cs (a : Region) : List D := [Dstr a.type, Dint a.b, Dint a.e, .slice (a.keys.map Pair.cs)]
def Node.cs (a : Node) : List D := [Dstr a.label, Dint a.b, Dint a.e, Dint a.parent]
def Corpus.cs (c : Corpus) : List D := [.slice (c.attrs.map Attr.cs), .slice (c.tokens.map fun t => [strs t]), .slice (c.texts.map Text.cs), .slice (c.regions.map Region.cs), .slice (c.nodes.map Node.cs), ints c.heads, strs c.rels]
abbrev Corpus.d (c : Corpus) : PV := .d (.agg c.cs)

def token (c : Corpus) (i : Int) : Bool := decide (0 ≤ i) && decide (i < c.tokens.length)


/-- results of which only the kind is said -/
def IsB (p : PV) : Prop := ∃ b : Bool, p = B b
def IsI (p : PV) : Prop := ∃ i : Int, p = I .i64 i
def IsII (p : PV) : Prop := ∃ i e : Int, p = .tup [I .i64 i, I .i64 e]
theorem mix : Try.prog.follows .mixedOrders = true := by kernel_rfl
end Go.Proofs.Ytfpdfcjohminlaa
namespace Go.Proofs.Ytfpdfcjohminlaa
open Go.Ab
attribute [local irreducible] Run Ops Op1 Does Val Tr PureF Eff1

theorem token_s (c : Corpus) (i : Int) : PureF Try.prog 36 [c.d, I .i64 i] (B (token c i)) := by
  refine pure_of fun H => ?_
  refine spec_of Try.func36 (by kernel_rfl) rfl (by simp) ?_
  dsimp only [Try.f36]
  repeat' (first | (refine k_op1 ?_; (first | refine o_sv rfl (by decide) ?_ | (refine k_load ?_; (refine o_val (v_load rfl rfl rfl rfl) rfl rfl (by decide) ?_)) | (refine k_field ?_; (refine o_val (v_field rfl rfl) rfl rfl (by decide) ?_)) | (refine k_blt ?_; (refine o_val (v_lenm rfl) rfl rfl (by decide) ?_)) | (refine k_box ?_; (refine o_does (d_box_d rfl rfl (by decide)) ?_)))) | (refine k_ops ?_; (first | refine o_go (by first | exact .inl rfl | exact .inr ⟨_, _, _, rfl, rfl, rfl⟩) ?_ | refine o_nil ?_ | refine o_no rfl rfl (by decide) ?_ | refine o_casep rfl rfl (fun _ => ?_) (fun _ => ?_))) | (refine k_run ?_; (first | refine r_seq ?_ | refine r_region ?_)))
  all_goals refine r_ret Try.func36 _ (res_one rfl rfl) ⟨?_, rfl⟩
  all_goals simp [token, *]

def inB (l : List Int) (x : Int) : Bool := decide (x ∈ l)

theorem in_s (l : List Int) (x : Int) (hl : l.length ≤ 1000000) : PureF Try.prog 41 [.d (ints l), I .i64 x] (B (inB l x)) := by
  refine pure_of fun H => ?_
  refine spec_of Try.func41 (by kernel_rfl) rfl (by simp) ?_
  dsimp only [Try.f41]
  repeat' (first | (refine k_op1 ?_; (first | refine o_sv rfl (by decide) ?_ | (refine k_blt ?_; (refine o_val (v_lenm rfl) rfl rfl (by decide) ?_)))) | (refine k_ops ?_; (first | refine o_go (by first | exact .inl rfl | exact .inr ⟨_, _, _, rfl, rfl, rfl⟩) ?_ | refine o_nil ?_)) | (refine k_run ?_; (first | refine r_seq ?_ | refine r_region ?_ | refine r_block ?_)))
  refine r_loop ?_
  refine r_less (r_inv (fun k : Nat => ⟨17, [(0, .d (ints l)), (1, I .i64 x), (7, .d (ints l)), (8, I .i64 l.length), (9, I .i64 k)], [], H⟩) (fun k => k ≤ l.length ∧ ∀ j < k, l[j]? ≠ some x) (fun k => l.length - k) ?_ 0 ⟨by omega, by simp⟩) rfl rfl
  intro k ⟨hk, hno⟩ ih
  by_cases hlt : k < l.length
  · obtain ⟨y, hy⟩ : ∃ y, l[k]? = some y := ⟨_, List.getElem?_eq_getElem hlt⟩
    repeat' (first | (refine k_op1 ?_; (first | refine o_sv rfl (by decide) ?_ | (refine k_load ?_; (refine o_val (v_loade rfl rfl rfl) rfl rfl (by decide) ?_)) | (refine k_index ?_; (refine o_val (v_index rfl (by omega) (idx hy) rfl) rfl rfl (by decide) ?_)) | (refine k_bin ?_; (refine o_val (v_add (wi64 (by omega) (by omega))) rfl rfl (by decide) ?_)))) | (refine k_ops ?_; (first | refine o_go (by first | exact .inl rfl | exact .inr ⟨_, _, _, rfl, rfl, rfl⟩) ?_ | refine o_nil ?_)) | (refine k_run ?_; (first | refine r_seq ?_ | refine r_region ?_ | refine r_skip ?_ | refine r_block ?_ | refine r_inBlock ?_ | refine r_if rfl (fun _ => ?_) (fun _ => ?_) | refine r_exit rfl ?_)))
    · refine r_ret Try.func41 _ (res_one rfl rfl) ⟨?_, rfl⟩
      rename_i h1 h2
      simp [inB, h2, List.mem_of_getElem? hy]
    · refine r_less (ih (k + 1) ⟨by omega, ?_⟩ (by omega)) rfl rfl
      intro j hj
      by_cases e : j = k
      · subst e; rw [hy]; intro h; simp at h; simp_all
      · exact hno j (by omega)
    · rename_i h1
      omega
  · repeat' (first | (refine k_op1 ?_; (refine o_sv rfl (by decide) ?_)) | (refine k_ops ?_; (first | refine o_go (by first | exact .inl rfl | exact .inr ⟨_, _, _, rfl, rfl, rfl⟩) ?_ | refine o_nil ?_)) | (refine k_run ?_; (first | refine r_seq ?_ | refine r_region ?_ | refine r_skip ?_ | refine r_block ?_ | refine r_if rfl (fun _ => ?_) (fun _ => ?_) | refine r_exit rfl ?_)))
    · rename_i h1
      omega
    · refine r_ret Try.func41 _ (res_one rfl rfl) ⟨?_, rfl⟩
      have : x ∉ l := fun hx => by
        obtain ⟨j, hj⟩ := List.getElem?_of_mem hx
        exact hno j (by have := (List.getElem?_eq_some_iff.1 hj).1; omega) hj
      simp [inB, this]
end Go.Proofs.Ytfpdfcjohminlaa
namespace Go.Proofs.Ytfpdfcjohminlaa
open Go.Ab
attribute [local irreducible] Run Ops Op1 Does Val Tr PureF Eff1

def head (c : Corpus) (i : Int) : Int := match c.heads[i.toNat]? with
  | some h => if token c h then h else -1
  | none => -1

theorem head_s (c : Corpus) (i : Int) (hi : 0 ≤ i) : PureF Try.prog 37 [c.d, I .i64 i] (I .i64 (head c i)) := by
  refine pure_of fun H => ?_
  refine spec_of Try.func37 (by kernel_rfl) rfl (by simp) ?_
  dsimp only [Try.f37]
  repeat' (first | refine r_seq ?_ | refine r_region ?_ | refine o_nil ?_ | refine r_skip ?_ | refine r_block ?_ | refine r_scope ?_ | refine r_inScope ?_ | refine r_tr ?_ | refine t_end mix (by kernel_rfl) ?_ | refine r_inBlock ?_ | refine r_label ?_ | refine o_no rfl rfl (by decide) ?_ | refine o_no2 rfl rfl (by decide) ?_ | refine o_go (by first | exact .inl rfl | exact .inr ⟨_, _, _, rfl, rfl, rfl⟩) ?_ | refine o_sv rfl (by decide) ?_ | refine o_does (d_box_d rfl rfl (by decide)) ?_ | refine o_lit rfl rfl rfl rfl rfl rfl rfl rfl (by decide) ?_ | refine o_build rfl rfl rfl rfl rfl rfl rfl (by decide) ?_ | refine o_does (d_alloc rfl rfl (by decide)) ?_ | refine o_does (d_box_d rfl rfl (by decide)) ?_ | refine o_store0 rfl rfl rfl rfl rfl rfl ?_ | refine o_store rfl rfl rfl rfl rfl rfl rfl rfl rfl ?_ | refine o_app1 rfl rfl _ rfl rfl rfl rfl rfl rfl rfl (by decide) (by omega) ?_ | refine o_val (v_index rfl (by omega) (idx hx) rfl) rfl rfl (by decide) ?_ | refine o_val (v_index rfl (by omega) (idx hy) rfl) rfl rfl (by decide) ?_ | refine o_val (v_index rfl (by omega) (idx hz) rfl) rfl rfl (by decide) ?_ | refine o_val (v_field rfl rfl) rfl rfl (by decide) ?_ | refine o_val (v_loada rfl rfl rfl) rfl rfl (by decide) ?_ | refine o_val (v_load rfl rfl rfl rfl) rfl rfl (by decide) ?_ | refine o_val (v_lenm rfl) rfl rfl (by decide) ?_ | refine o_val (v_loade rfl rfl rfl) rfl rfl (by decide) ?_ | refine o_val (v_rload rfl rfl rfl rfl) rfl rfl (by decide) ?_ | refine o_val (v_add (wi64 (by omega) (by omega))) rfl rfl (by decide) ?_ | refine o_val (v_sub (wi64 (by omega) (by omega))) rfl rfl (by decide) ?_ | refine o_val (v_loadea rfl rfl) rfl rfl (by decide) ?_ | refine o_val (v_fielde rfl rfl) rfl rfl (by decide) ?_ | refine o_val (v_len rfl) rfl rfl (by decide) ?_ | refine o_val (v_lens rfl) rfl rfl (by decide) ?_ | refine o_val (v_lenrm rfl) rfl rfl (by decide) ?_ | refine o_val (v_lenr rfl) rfl rfl (by decide) ?_ | refine o_val v_min rfl rfl (by decide) ?_ | refine o_val v_max rfl rfl (by decide) ?_ | refine o_val (v_beql rfl) rfl rfl (by decide) ?_ | refine o_val (v_bneq rfl) rfl rfl (by decide) ?_ | refine o_val (v_fieldr rfl rfl) rfl rfl (by decide) ?_ | refine o_val v_slss rfl rfl (by decide) ?_ | refine o_val v_sgtr rfl rfl (by decide) ?_ | refine o_val v_sgeq rfl rfl (by decide) ?_ | refine o_val v_sleq rfl rfl (by decide) ?_ | refine o_val (v_loadp rfl rfl rfl rfl) rfl rfl (by decide) ?_ | refine o_casep rfl rfl (fun _ => ?_) (fun _ => ?_) | refine o_casen rfl rfl (fun _ => ?_) (fun _ => ?_) | refine o_case rfl rfl (fun _ => ?_) (fun _ => ?_) | refine r_true rfl ?_ | refine r_false rfl ?_ | refine r_if rfl (fun _ => ?_) (fun _ => ?_) | refine r_ifn rfl (fun _ => ?_) (fun _ => ?_) | refine r_cond rfl (fun _ => ?_) (fun _ => ?_) | refine r_exit rfl ?_)
  by_cases hlt : i.toNat < c.heads.length
  · obtain ⟨h, hh⟩ : ∃ h, c.heads[i.toNat]? = some h := ⟨_, List.getElem?_eq_getElem hlt⟩
    repeat' (first | refine t_pass rfl rfl (by decide) ?_ | refine t_pass2 rfl rfl (by decide) ?_ | refine t_sv rfl (by first | exact rfl | exact ⟨_, rfl, rfl, rfl⟩) (by decide) ?_ | refine t_val (v_index rfl (by omega) (idxi hh) rfl) (by first | exact rfl | exact ⟨_, rfl, rfl, rfl⟩) rfl rfl (by decide) ?_ | refine t_fn (token_s _ _) (by first | exact rfl | exact ⟨_, rfl, rfl, rfl⟩) rfl (by decide) ?_ | refine t_alloc (by first | exact rfl | exact ⟨_, rfl, rfl, rfl⟩) rfl rfl (by decide) ?_ | refine t_lit (by first | exact rfl | exact ⟨_, rfl, rfl, rfl⟩) rfl rfl rfl rfl rfl rfl rfl rfl (by decide) ?_ | refine t_build (by first | exact rfl | exact ⟨_, rfl, rfl, rfl⟩) rfl rfl rfl rfl rfl rfl rfl (by decide) ?_ | refine t_app1 (by first | exact rfl | exact ⟨_, rfl, rfl, rfl⟩) rfl rfl _ rfl rfl rfl rfl rfl rfl rfl (by decide) (by omega) ?_ | refine t_val (v_index rfl (by omega) (idx hx) rfl) (by first | exact rfl | exact ⟨_, rfl, rfl, rfl⟩) rfl rfl (by decide) ?_ | refine t_val (v_index rfl (by omega) (idx hy) rfl) (by first | exact rfl | exact ⟨_, rfl, rfl, rfl⟩) rfl rfl (by decide) ?_ | refine t_val (v_index rfl (by omega) (idx hz) rfl) (by first | exact rfl | exact ⟨_, rfl, rfl, rfl⟩) rfl rfl (by decide) ?_ | refine t_val (v_field rfl rfl) (by first | exact rfl | exact ⟨_, rfl, rfl, rfl⟩) rfl rfl (by decide) ?_ | refine t_val (v_loada rfl rfl rfl) (by first | exact rfl | exact ⟨_, rfl, rfl, rfl⟩) rfl rfl (by decide) ?_ | refine t_val (v_load rfl rfl rfl rfl) (by first | exact rfl | exact ⟨_, rfl, rfl, rfl⟩) rfl rfl (by decide) ?_ | refine t_val (v_lenm rfl) (by first | exact rfl | exact ⟨_, rfl, rfl, rfl⟩) rfl rfl (by decide) ?_ | refine t_val (v_loade rfl rfl rfl) (by first | exact rfl | exact ⟨_, rfl, rfl, rfl⟩) rfl rfl (by decide) ?_ | refine t_val (v_rload rfl rfl rfl rfl) (by first | exact rfl | exact ⟨_, rfl, rfl, rfl⟩) rfl rfl (by decide) ?_ | refine t_val (v_add (wi64 (by omega) (by omega))) (by first | exact rfl | exact ⟨_, rfl, rfl, rfl⟩) rfl rfl (by decide) ?_ | refine t_val (v_sub (wi64 (by omega) (by omega))) (by first | exact rfl | exact ⟨_, rfl, rfl, rfl⟩) rfl rfl (by decide) ?_ | refine t_val (v_loadea rfl rfl) (by first | exact rfl | exact ⟨_, rfl, rfl, rfl⟩) rfl rfl (by decide) ?_ | refine t_val (v_fielde rfl rfl) (by first | exact rfl | exact ⟨_, rfl, rfl, rfl⟩) rfl rfl (by decide) ?_ | refine t_val (v_len rfl) (by first | exact rfl | exact ⟨_, rfl, rfl, rfl⟩) rfl rfl (by decide) ?_ | refine t_val (v_lens rfl) (by first | exact rfl | exact ⟨_, rfl, rfl, rfl⟩) rfl rfl (by decide) ?_ | refine t_val (v_lenrm rfl) (by first | exact rfl | exact ⟨_, rfl, rfl, rfl⟩) rfl rfl (by decide) ?_ | refine t_val (v_lenr rfl) (by first | exact rfl | exact ⟨_, rfl, rfl, rfl⟩) rfl rfl (by decide) ?_ | refine t_val v_min (by first | exact rfl | exact ⟨_, rfl, rfl, rfl⟩) rfl rfl (by decide) ?_ | refine t_val v_max (by first | exact rfl | exact ⟨_, rfl, rfl, rfl⟩) rfl rfl (by decide) ?_ | refine t_val (v_beql rfl) (by first | exact rfl | exact ⟨_, rfl, rfl, rfl⟩) rfl rfl (by decide) ?_ | refine t_val (v_bneq rfl) (by first | exact rfl | exact ⟨_, rfl, rfl, rfl⟩) rfl rfl (by decide) ?_ | refine t_val (v_fieldr rfl rfl) (by first | exact rfl | exact ⟨_, rfl, rfl, rfl⟩) rfl rfl (by decide) ?_ | refine t_val v_slss (by first | exact rfl | exact ⟨_, rfl, rfl, rfl⟩) rfl rfl (by decide) ?_ | refine t_val v_sgtr (by first | exact rfl | exact ⟨_, rfl, rfl, rfl⟩) rfl rfl (by decide) ?_ | refine t_val v_sgeq (by first | exact rfl | exact ⟨_, rfl, rfl, rfl⟩) rfl rfl (by decide) ?_ | refine t_val v_sleq (by first | exact rfl | exact ⟨_, rfl, rfl, rfl⟩) rfl rfl (by decide) ?_ | refine t_val (v_loadp rfl rfl rfl rfl) (by first | exact rfl | exact ⟨_, rfl, rfl, rfl⟩) rfl rfl (by decide) ?_ | refine t_store0 (by first | exact rfl | exact ⟨_, rfl, rfl, rfl⟩) rfl rfl rfl rfl rfl rfl ?_ | refine t_store (by first | exact rfl | exact ⟨_, rfl, rfl, rfl⟩) rfl rfl rfl rfl rfl rfl rfl rfl rfl ?_ | (refine t_either rfl rfl (fun hg => ?_) (fun hg => ?_) <;> simp only [hg] <;> (try simp only [decide_eq_true_eq, decide_eq_false_iff_not, Bool.not_eq_true', Bool.not_eq_false'] at hg)))
    repeat' (first | refine r_seq ?_ | refine r_region ?_ | refine o_nil ?_ | refine r_skip ?_ | refine r_block ?_ | refine r_scope ?_ | refine r_inScope ?_ | refine r_tr ?_ | refine t_end mix (by kernel_rfl) ?_ | refine r_inBlock ?_ | refine r_label ?_ | refine o_no rfl rfl (by decide) ?_ | refine o_no2 rfl rfl (by decide) ?_ | refine o_go (by first | exact .inl rfl | exact .inr ⟨_, _, _, rfl, rfl, rfl⟩) ?_ | refine o_sv rfl (by decide) ?_ | refine o_val (v_index rfl (by omega) (idxi hh) rfl) rfl rfl (by decide) ?_ | refine o_lit rfl rfl rfl rfl rfl rfl rfl rfl (by decide) ?_ | refine o_build rfl rfl rfl rfl rfl rfl rfl (by decide) ?_ | refine o_does (d_alloc rfl rfl (by decide)) ?_ | refine o_does (d_box_d rfl rfl (by decide)) ?_ | refine o_store0 rfl rfl rfl rfl rfl rfl ?_ | refine o_store rfl rfl rfl rfl rfl rfl rfl rfl rfl ?_ | refine o_app1 rfl rfl _ rfl rfl rfl rfl rfl rfl rfl (by decide) (by omega) ?_ | refine o_val (v_index rfl (by omega) (idx hx) rfl) rfl rfl (by decide) ?_ | refine o_val (v_index rfl (by omega) (idx hy) rfl) rfl rfl (by decide) ?_ | refine o_val (v_index rfl (by omega) (idx hz) rfl) rfl rfl (by decide) ?_ | refine o_val (v_field rfl rfl) rfl rfl (by decide) ?_ | refine o_val (v_loada rfl rfl rfl) rfl rfl (by decide) ?_ | refine o_val (v_load rfl rfl rfl rfl) rfl rfl (by decide) ?_ | refine o_val (v_lenm rfl) rfl rfl (by decide) ?_ | refine o_val (v_loade rfl rfl rfl) rfl rfl (by decide) ?_ | refine o_val (v_rload rfl rfl rfl rfl) rfl rfl (by decide) ?_ | refine o_val (v_add (wi64 (by omega) (by omega))) rfl rfl (by decide) ?_ | refine o_val (v_sub (wi64 (by omega) (by omega))) rfl rfl (by decide) ?_ | refine o_val (v_loadea rfl rfl) rfl rfl (by decide) ?_ | refine o_val (v_fielde rfl rfl) rfl rfl (by decide) ?_ | refine o_val (v_len rfl) rfl rfl (by decide) ?_ | refine o_val (v_lens rfl) rfl rfl (by decide) ?_ | refine o_val (v_lenrm rfl) rfl rfl (by decide) ?_ | refine o_val (v_lenr rfl) rfl rfl (by decide) ?_ | refine o_val v_min rfl rfl (by decide) ?_ | refine o_val v_max rfl rfl (by decide) ?_ | refine o_val (v_beql rfl) rfl rfl (by decide) ?_ | refine o_val (v_bneq rfl) rfl rfl (by decide) ?_ | refine o_val (v_fieldr rfl rfl) rfl rfl (by decide) ?_ | refine o_val v_slss rfl rfl (by decide) ?_ | refine o_val v_sgtr rfl rfl (by decide) ?_ | refine o_val v_sgeq rfl rfl (by decide) ?_ | refine o_val v_sleq rfl rfl (by decide) ?_ | refine o_val (v_loadp rfl rfl rfl rfl) rfl rfl (by decide) ?_ | refine o_casep rfl rfl (fun _ => ?_) (fun _ => ?_) | refine o_casen rfl rfl (fun _ => ?_) (fun _ => ?_) | refine o_case rfl rfl (fun _ => ?_) (fun _ => ?_) | refine r_true rfl ?_ | refine r_false rfl ?_ | refine r_if rfl (fun _ => ?_) (fun _ => ?_) | refine r_ifn rfl (fun _ => ?_) (fun _ => ?_) | refine r_cond rfl (fun _ => ?_) (fun _ => ?_) | refine r_exit rfl ?_)
    all_goals refine r_ret Try.func37 _ (res_one rfl rfl) ⟨?_, rfl⟩
    all_goals simp_all [head]
    all_goals omega
  · repeat' (first | refine t_pass rfl rfl (by decide) ?_ | refine t_pass2 rfl rfl (by decide) ?_ | refine t_sv rfl (by first | exact rfl | exact ⟨_, rfl, rfl, rfl⟩) (by decide) ?_ | refine t_alloc (by first | exact rfl | exact ⟨_, rfl, rfl, rfl⟩) rfl rfl (by decide) ?_ | refine t_lit (by first | exact rfl | exact ⟨_, rfl, rfl, rfl⟩) rfl rfl rfl rfl rfl rfl rfl rfl (by decide) ?_ | refine t_build (by first | exact rfl | exact ⟨_, rfl, rfl, rfl⟩) rfl rfl rfl rfl rfl rfl rfl (by decide) ?_ | refine t_app1 (by first | exact rfl | exact ⟨_, rfl, rfl, rfl⟩) rfl rfl _ rfl rfl rfl rfl rfl rfl rfl (by decide) (by omega) ?_ | refine t_val (v_index rfl (by omega) (idx hx) rfl) (by first | exact rfl | exact ⟨_, rfl, rfl, rfl⟩) rfl rfl (by decide) ?_ | refine t_val (v_index rfl (by omega) (idx hy) rfl) (by first | exact rfl | exact ⟨_, rfl, rfl, rfl⟩) rfl rfl (by decide) ?_ | refine t_val (v_index rfl (by omega) (idx hz) rfl) (by first | exact rfl | exact ⟨_, rfl, rfl, rfl⟩) rfl rfl (by decide) ?_ | refine t_val (v_field rfl rfl) (by first | exact rfl | exact ⟨_, rfl, rfl, rfl⟩) rfl rfl (by decide) ?_ | refine t_val (v_loada rfl rfl rfl) (by first | exact rfl | exact ⟨_, rfl, rfl, rfl⟩) rfl rfl (by decide) ?_ | refine t_val (v_load rfl rfl rfl rfl) (by first | exact rfl | exact ⟨_, rfl, rfl, rfl⟩) rfl rfl (by decide) ?_ | refine t_val (v_lenm rfl) (by first | exact rfl | exact ⟨_, rfl, rfl, rfl⟩) rfl rfl (by decide) ?_ | refine t_val (v_loade rfl rfl rfl) (by first | exact rfl | exact ⟨_, rfl, rfl, rfl⟩) rfl rfl (by decide) ?_ | refine t_val (v_rload rfl rfl rfl rfl) (by first | exact rfl | exact ⟨_, rfl, rfl, rfl⟩) rfl rfl (by decide) ?_ | refine t_val (v_add (wi64 (by omega) (by omega))) (by first | exact rfl | exact ⟨_, rfl, rfl, rfl⟩) rfl rfl (by decide) ?_ | refine t_val (v_sub (wi64 (by omega) (by omega))) (by first | exact rfl | exact ⟨_, rfl, rfl, rfl⟩) rfl rfl (by decide) ?_ | refine t_val (v_loadea rfl rfl) (by first | exact rfl | exact ⟨_, rfl, rfl, rfl⟩) rfl rfl (by decide) ?_ | refine t_val (v_fielde rfl rfl) (by first | exact rfl | exact ⟨_, rfl, rfl, rfl⟩) rfl rfl (by decide) ?_ | refine t_val (v_len rfl) (by first | exact rfl | exact ⟨_, rfl, rfl, rfl⟩) rfl rfl (by decide) ?_ | refine t_val (v_lens rfl) (by first | exact rfl | exact ⟨_, rfl, rfl, rfl⟩) rfl rfl (by decide) ?_ | refine t_val (v_lenrm rfl) (by first | exact rfl | exact ⟨_, rfl, rfl, rfl⟩) rfl rfl (by decide) ?_ | refine t_val (v_lenr rfl) (by first | exact rfl | exact ⟨_, rfl, rfl, rfl⟩) rfl rfl (by decide) ?_ | refine t_val v_min (by first | exact rfl | exact ⟨_, rfl, rfl, rfl⟩) rfl rfl (by decide) ?_ | refine t_val v_max (by first | exact rfl | exact ⟨_, rfl, rfl, rfl⟩) rfl rfl (by decide) ?_ | refine t_val (v_beql rfl) (by first | exact rfl | exact ⟨_, rfl, rfl, rfl⟩) rfl rfl (by decide) ?_ | refine t_val (v_bneq rfl) (by first | exact rfl | exact ⟨_, rfl, rfl, rfl⟩) rfl rfl (by decide) ?_ | refine t_val (v_fieldr rfl rfl) (by first | exact rfl | exact ⟨_, rfl, rfl, rfl⟩) rfl rfl (by decide) ?_ | refine t_val v_slss (by first | exact rfl | exact ⟨_, rfl, rfl, rfl⟩) rfl rfl (by decide) ?_ | refine t_val v_sgtr (by first | exact rfl | exact ⟨_, rfl, rfl, rfl⟩) rfl rfl (by decide) ?_ | refine t_val v_sgeq (by first | exact rfl | exact ⟨_, rfl, rfl, rfl⟩) rfl rfl (by decide) ?_ | refine t_val v_sleq (by first | exact rfl | exact ⟨_, rfl, rfl, rfl⟩) rfl rfl (by decide) ?_ | refine t_val (v_loadp rfl rfl rfl rfl) (by first | exact rfl | exact ⟨_, rfl, rfl, rfl⟩) rfl rfl (by decide) ?_ | refine t_store0 (by first | exact rfl | exact ⟨_, rfl, rfl, rfl⟩) rfl rfl rfl rfl rfl rfl ?_ | refine t_store (by first | exact rfl | exact ⟨_, rfl, rfl, rfl⟩) rfl rfl rfl rfl rfl rfl rfl rfl rfl ?_ | (refine t_either rfl rfl (fun hg => ?_) (fun hg => ?_) <;> simp only [hg] <;> (try simp only [decide_eq_true_eq, decide_eq_false_iff_not, Bool.not_eq_true', Bool.not_eq_false'] at hg)))
    repeat' (first | refine r_seq ?_ | refine r_region ?_ | refine o_nil ?_ | refine r_skip ?_ | refine r_block ?_ | refine r_scope ?_ | refine r_inScope ?_ | refine r_tr ?_ | refine t_end mix (by kernel_rfl) ?_ | refine r_inBlock ?_ | refine r_label ?_ | refine o_no rfl rfl (by decide) ?_ | refine o_no2 rfl rfl (by decide) ?_ | refine o_go (by first | exact .inl rfl | exact .inr ⟨_, _, _, rfl, rfl, rfl⟩) ?_ | refine o_sv rfl (by decide) ?_ | refine o_lit rfl rfl rfl rfl rfl rfl rfl rfl (by decide) ?_ | refine o_build rfl rfl rfl rfl rfl rfl rfl (by decide) ?_ | refine o_does (d_alloc rfl rfl (by decide)) ?_ | refine o_does (d_box_d rfl rfl (by decide)) ?_ | refine o_store0 rfl rfl rfl rfl rfl rfl ?_ | refine o_store rfl rfl rfl rfl rfl rfl rfl rfl rfl ?_ | refine o_app1 rfl rfl _ rfl rfl rfl rfl rfl rfl rfl (by decide) (by omega) ?_ | refine o_val (v_index rfl (by omega) (idx hx) rfl) rfl rfl (by decide) ?_ | refine o_val (v_index rfl (by omega) (idx hy) rfl) rfl rfl (by decide) ?_ | refine o_val (v_index rfl (by omega) (idx hz) rfl) rfl rfl (by decide) ?_ | refine o_val (v_field rfl rfl) rfl rfl (by decide) ?_ | refine o_val (v_loada rfl rfl rfl) rfl rfl (by decide) ?_ | refine o_val (v_load rfl rfl rfl rfl) rfl rfl (by decide) ?_ | refine o_val (v_lenm rfl) rfl rfl (by decide) ?_ | refine o_val (v_loade rfl rfl rfl) rfl rfl (by decide) ?_ | refine o_val (v_rload rfl rfl rfl rfl) rfl rfl (by decide) ?_ | refine o_val (v_add (wi64 (by omega) (by omega))) rfl rfl (by decide) ?_ | refine o_val (v_sub (wi64 (by omega) (by omega))) rfl rfl (by decide) ?_ | refine o_val (v_loadea rfl rfl) rfl rfl (by decide) ?_ | refine o_val (v_fielde rfl rfl) rfl rfl (by decide) ?_ | refine o_val (v_len rfl) rfl rfl (by decide) ?_ | refine o_val (v_lens rfl) rfl rfl (by decide) ?_ | refine o_val (v_lenrm rfl) rfl rfl (by decide) ?_ | refine o_val (v_lenr rfl) rfl rfl (by decide) ?_ | refine o_val v_min rfl rfl (by decide) ?_ | refine o_val v_max rfl rfl (by decide) ?_ | refine o_val (v_beql rfl) rfl rfl (by decide) ?_ | refine o_val (v_bneq rfl) rfl rfl (by decide) ?_ | refine o_val (v_fieldr rfl rfl) rfl rfl (by decide) ?_ | refine o_val v_slss rfl rfl (by decide) ?_ | refine o_val v_sgtr rfl rfl (by decide) ?_ | refine o_val v_sgeq rfl rfl (by decide) ?_ | refine o_val v_sleq rfl rfl (by decide) ?_ | refine o_val (v_loadp rfl rfl rfl rfl) rfl rfl (by decide) ?_ | refine o_casep rfl rfl (fun _ => ?_) (fun _ => ?_) | refine o_casen rfl rfl (fun _ => ?_) (fun _ => ?_) | refine o_case rfl rfl (fun _ => ?_) (fun _ => ?_) | refine r_true rfl ?_ | refine r_false rfl ?_ | refine r_if rfl (fun _ => ?_) (fun _ => ?_) | refine r_ifn rfl (fun _ => ?_) (fun _ => ?_) | refine r_cond rfl (fun _ => ?_) (fun _ => ?_) | refine r_exit rfl ?_)
    all_goals try simp at hg
    all_goals first | omega | skip
    all_goals refine r_ret Try.func37 _ (res_one rfl rfl) ⟨?_, rfl⟩
    all_goals simp_all [head]
end Go.Proofs.Ytfpdfcjohminlaa
namespace Go.Proofs.Ytfpdfcjohminlaa
open Go.Ab
attribute [local irreducible] Run Ops Op1 Does Val Tr PureF Eff1

def upFrom (c : Corpus) : Nat → Int → List Int
  | 0, _ => []
  | n + 1, i => if 0 ≤ i then i :: upFrom c n (head c i) else []
def up (c : Corpus) (i : Int) : List Int := if token c i then upFrom c c.tokens.length (head c i) else []

theorem up_s (c : Corpus) (i : Int) (hc : c.tokens.length ≤ 1000000) : PureF Try.prog 15 [c.d, I .i64 i] (.d (ints (up c i))) := by
  refine pure_of fun H => ?_
  refine spec_of Try.func15 (by kernel_rfl) rfl (by simp) ?_
  dsimp only [Try.f15]
  repeat' (first | (refine k_op1 ?_; (first | refine o_nil_row rfl rfl rfl (by decide) ?_ | refine o_sv rfl (by decide) ?_ | (refine k_load ?_; (refine o_val (v_loada rfl rfl rfl) rfl rfl (by decide) ?_)) | (refine k_call ?_; (refine o_fn (token_s _ _) rfl (by decide) ?_)) | (refine k_box ?_; (refine o_does (d_box_d rfl rfl (by decide)) ?_)))) | (refine k_ops ?_; (first | refine o_go (by first | exact .inl rfl | exact .inr ⟨_, _, _, rfl, rfl, rfl⟩) ?_ | refine o_nil ?_)) | (refine k_run ?_; (first | refine r_seq ?_ | refine r_region ?_ | refine r_skip ?_ | refine r_cond rfl (fun _ => ?_) (fun _ => ?_))))
  · refine r_nil 4 rfl ?_
    refine r_ret Try.func15 _ (res_one rfl rfl) ⟨?_, rfl⟩
    simp_all [up, ints]
  · have ht : token c i = true := by simp_all
    have h0 : 0 ≤ i := by simp [token] at ht; exact ht.1
    repeat' (first | (refine k_op1 ?_; (first | refine o_sv rfl (by decide) ?_ | (refine k_call ?_; (refine o_fn (head_s _ _ h0) rfl (by decide) ?_)))) | (refine k_ops ?_; (first | refine o_go (by first | exact .inl rfl | exact .inr ⟨_, _, _, rfl, rfl, rfl⟩) ?_ | refine o_nil ?_)) | (refine k_run ?_; (refine r_block ?_)))
    refine r_loop ?_
    refine r_less (r_inv (fun s : List Int × Int => ⟨31, [(1, I .i64 s.2), (2, .ptr (0, 2) 0), (5, .ref (0, 5))], [(5, .row 3 1 (s.1.map fun x => [Dint x])), (2, .box (c.cs.map .d))], H⟩)
      (fun s => s.1.length ≤ c.tokens.length ∧ up c i = s.1 ++ upFrom c (c.tokens.length - s.1.length) s.2) (fun s => c.tokens.length - s.1.length) ?_ ([], head c i) ⟨by simp, by simp [up, ht]⟩) rfl rfl
    intro ⟨out, j⟩ ⟨hl, he⟩ ih
    simp only at hl he ih ⊢
    repeat' (first | (refine k_op1 ?_; (first | refine o_sv rfl (by decide) ?_ | (refine k_load ?_; (first | refine o_val (v_loada rfl rfl rfl) rfl rfl (by decide) ?_ | refine o_val (v_load rfl rfl rfl rfl) rfl rfl (by decide) ?_)) | (refine k_field ?_; (refine o_val (v_field rfl rfl) rfl rfl (by decide) ?_)) | (refine k_blt ?_; (first | refine o_val (v_lenm rfl) rfl rfl (by decide) ?_ | refine o_val (v_lenrm rfl) rfl rfl (by decide) ?_ | refine o_app1 rfl rfl _ rfl rfl rfl rfl rfl rfl rfl (by decide) (by omega) ?_)) | (refine k_call ?_; (refine o_fn (head_s _ _ (by assumption)) rfl (by decide) ?_)) | (refine k_lit ?_; (refine o_lit rfl rfl rfl rfl rfl rfl rfl rfl (by decide) ?_)))) | (refine k_ops ?_; (first | refine o_go (by first | exact .inl rfl | exact .inr ⟨_, _, _, rfl, rfl, rfl⟩) ?_ | refine o_nil ?_ | refine o_no rfl rfl (by decide) ?_ | refine o_casep rfl rfl (fun _ => ?_) (fun _ => ?_))) | (refine k_run ?_; (first | refine r_seq ?_ | refine r_region ?_ | refine r_false rfl ?_ | refine r_skip ?_ | refine r_block ?_ | refine r_inBlock ?_ | refine r_if rfl (fun _ => ?_) (fun _ => ?_) | refine r_exit rfl ?_)))
    · rename_i hj hlt
      have e : c.tokens.length - out.length = (c.tokens.length - (out.length + 1)) + 1 := by omega
      refine r_ren 29 5 rfl rfl ?_
      refine r_less (ih (out ++ [j], head c j) ⟨by simp; omega, ?_⟩ (by simp; omega)) rfl rfl
      rw [he, e, upFrom, if_pos hj]
      simp
    · rename_i hj hlt
      refine r_freeze 5 rfl ?_
      refine r_ret Try.func15 _ (res_one rfl rfl) ⟨?_, rfl⟩
      have e : c.tokens.length - out.length = 0 := by omega
      rw [he, e, upFrom]; simp [ints]
    · rename_i hj
      refine r_freeze 5 rfl ?_
      refine r_ret Try.func15 _ (res_one rfl rfl) ⟨?_, rfl⟩
      rw [he]
      cases c.tokens.length - out.length <;> simp [upFrom, hj, ints]
end Go.Proofs.Ytfpdfcjohminlaa
namespace Go.Proofs.Ytfpdfcjohminlaa
open Go.Ab
attribute [local irreducible] Run Ops Op1 Does Val Tr PureF Eff1

/-- the first place of a number, from a place on -/
def indexOf (l : List Int) (x : Int) : Int := match l.findIdx? (· == x) with
  | some i => i
  | none => -1

theorem index_s (l : List Int) (x : Int) (hl : l.length ≤ 1000000) : PureF Try.prog 54 [.d (ints l), I .i64 x] (I .i64 (indexOf l x)) := by
  refine pure_of fun H => ?_
  refine spec_of Try.func54 (by kernel_rfl) rfl (by simp) ?_
  dsimp only [Try.f54]
  repeat' (first | (refine k_op1 ?_; (first | refine o_sv rfl (by decide) ?_ | (refine k_blt ?_; (refine o_val (v_lenm rfl) rfl rfl (by decide) ?_)))) | (refine k_ops ?_; (first | refine o_go (by first | exact .inl rfl | exact .inr ⟨_, _, _, rfl, rfl, rfl⟩) ?_ | refine o_nil ?_)) | (refine k_run ?_; (first | refine r_seq ?_ | refine r_region ?_ | refine r_block ?_)))
  refine r_loop ?_
  refine r_less (r_inv (fun k : Nat => ⟨19, [(0, .d (ints l)), (1, I .i64 x), (7, I .i64 l.length), (8, I .i64 k)], [], H⟩) (fun k => k ≤ l.length ∧ ∀ j < k, l[j]? ≠ some x) (fun k => l.length - k) ?_ 0 ⟨by omega, by simp⟩) rfl rfl
  intro k ⟨hk, hno⟩ ih
  by_cases hlt : k < l.length
  · obtain ⟨y, hy⟩ : ∃ y, l[k]? = some y := ⟨_, List.getElem?_eq_getElem hlt⟩
    repeat' (first | (refine k_op1 ?_; (first | refine o_sv rfl (by decide) ?_ | (refine k_load ?_; (refine o_val (v_loade rfl rfl rfl) rfl rfl (by decide) ?_)) | (refine k_index ?_; (refine o_val (v_index rfl (by omega) (idx hy) rfl) rfl rfl (by decide) ?_)) | (refine k_bin ?_; (refine o_val (v_add (wi64 (by omega) (by omega))) rfl rfl (by decide) ?_)))) | (refine k_ops ?_; (first | refine o_go (by first | exact .inl rfl | exact .inr ⟨_, _, _, rfl, rfl, rfl⟩) ?_ | refine o_nil ?_)) | (refine k_run ?_; (first | refine r_seq ?_ | refine r_region ?_ | refine r_skip ?_ | refine r_block ?_ | refine r_inBlock ?_ | refine r_if rfl (fun _ => ?_) (fun _ => ?_) | refine r_exit rfl ?_)))
    · refine r_ret Try.func54 _ (res_one rfl rfl) ⟨?_, rfl⟩
      rename_i h1 h2
      subst h2
      have : l.findIdx? (· == x) = some k := by
        rw [List.findIdx?_eq_some_iff_getElem]
        refine ⟨hlt, by rw [List.getElem?_eq_getElem hlt] at hy; simpa using hy, fun j hj => ?_⟩
        have := hno j hj
        rw [List.getElem?_eq_getElem (by omega)] at this
        simpa using this
      simp [indexOf, this]
    · refine r_less (ih (k + 1) ⟨by omega, ?_⟩ (by omega)) rfl rfl
      intro j hj
      by_cases e : j = k
      · subst e; rw [hy]; intro h; simp at h; simp_all
      · exact hno j (by omega)
    · rename_i h1
      omega
  · repeat' (first | (refine k_op1 ?_; (refine o_sv rfl (by decide) ?_)) | (refine k_ops ?_; (first | refine o_go (by first | exact .inl rfl | exact .inr ⟨_, _, _, rfl, rfl, rfl⟩) ?_ | refine o_nil ?_)) | (refine k_run ?_; (first | refine r_seq ?_ | refine r_region ?_ | refine r_skip ?_ | refine r_block ?_ | refine r_if rfl (fun _ => ?_) (fun _ => ?_) | refine r_exit rfl ?_)))
    · rename_i h1
      omega
    · refine r_ret Try.func54 _ (res_one rfl rfl) ⟨?_, rfl⟩
      have : l.findIdx? (· == x) = none := by
        rw [List.findIdx?_eq_none_iff]
        intro y hy
        obtain ⟨j, hj⟩ := List.getElem?_of_mem hy
        have := hno j (by have := (List.getElem?_eq_some_iff.1 hj).1; omega)
        rw [hj] at this
        simpa using this
      simp [indexOf, this]

theorem indexOf_iff (l : List Int) (x : Int) : 0 ≤ indexOf l x ↔ x ∈ l := by
  unfold indexOf
  split
  · rename_i i h
    rw [List.findIdx?_eq_some_iff_getElem] at h
    obtain ⟨h1, h2, _⟩ := h
    simp at h2
    exact ⟨fun _ => h2 ▸ List.getElem_mem h1, fun _ => by omega⟩
  · rename_i h
    rw [List.findIdx?_eq_none_iff] at h
    exact ⟨fun hh => by omega, fun hx => by simpa using h x hx⟩

theorem contains_s (l : List Int) (x : Int) (hl : l.length ≤ 1000000) : PureF Try.prog 40 [.d (ints l), I .i64 x] (B (inB l x)) := by
  refine pure_of fun H => ?_
  refine spec_of Try.func40 (by kernel_rfl) rfl (by simp) ?_
  dsimp only [Try.f40]
  repeat' (first | (refine k_op1 ?_; (first | refine o_sv rfl (by decide) ?_ | (refine k_call ?_; (refine o_fn (index_s _ _ hl) rfl (by decide) ?_)))) | (refine k_ops ?_; (first | refine o_go (by first | exact .inl rfl | exact .inr ⟨_, _, _, rfl, rfl, rfl⟩) ?_ | refine o_nil ?_)) | (refine k_run ?_; (first | refine r_seq ?_ | refine r_region ?_)))
  refine r_ret Try.func40 _ (res_one rfl rfl) ⟨?_, rfl⟩
  simp [inB, indexOf_iff]
end Go.Proofs.Ytfpdfcjohminlaa
namespace Go.Proofs.Ytfpdfcjohminlaa
open Go.Ab
attribute [local irreducible] Run Ops Op1 Does Val Tr PureF Eff1

/-- the numbers below n with a property -/
def sel (n : Nat) (p : Nat → Bool) : List Int := ((List.range n).filter p).map fun (k : Nat) => (k : Int)
theorem sel_succ (n : Nat) (p : Nat → Bool) : sel (n + 1) p = sel n p ++ (if p n then [(n : Int)] else []) := by
  simp only [sel, List.range_succ, List.filter_append, List.map_append]
  by_cases h : p n <;> simp [h]
theorem sel_len (n : Nat) (p : Nat → Bool) : (sel n p).length ≤ n := by
  have := List.length_filter_le p (List.range n)
  simpa [sel] using this
theorem sel_yes {n : Nat} {p : Nat → Bool} (h : p n = true) : sel (n + 1) p = sel n p ++ [(n : Int)] := by rw [sel_succ, if_pos h]
theorem sel_no {n : Nat} {p : Nat → Bool} (h : p n = false) : sel (n + 1) p = sel n p := by rw [sel_succ, if_neg (by simp [h])]; simp

def down (c : Corpus) (i : Int) : List Int := if token c i then sel c.tokens.length (fun k => head c k == i) else []
def under (c : Corpus) (i : Int) : List Int := if token c i then sel c.tokens.length (fun k => ((k : Int) == i) || inB (up c k) i) else []
theorem up_len (c : Corpus) (i : Int) : (up c i).length ≤ c.tokens.length := by
  have : ∀ n j, (upFrom c n j).length ≤ n := fun n => by
    induction n with
    | zero => intro j; simp [upFrom]
    | succ n ih => intro j; simp only [upFrom]; split <;> simp [ih]
  simp only [up]; split <;> simp [this]

theorem down_s (c : Corpus) (i : Int) (hc : c.tokens.length ≤ 1000000) : PureF Try.prog 17 [c.d, I .i64 i] (.d (ints (down c i))) := by
  refine pure_of fun H => ?_
  refine spec_of Try.func17 (by kernel_rfl) rfl (by simp) ?_
  dsimp only [Try.f17]
  repeat' (first | (refine k_op1 ?_; (first | refine o_nil_row rfl rfl rfl (by decide) ?_ | refine o_sv rfl (by decide) ?_ | (refine k_load ?_; (first | refine o_val (v_loada rfl rfl rfl) rfl rfl (by decide) ?_ | refine o_val (v_load rfl rfl rfl rfl) rfl rfl (by decide) ?_)) | (refine k_field ?_; (refine o_val (v_field rfl rfl) rfl rfl (by decide) ?_)) | (refine k_blt ?_; (refine o_val (v_lenm rfl) rfl rfl (by decide) ?_)) | (refine k_call ?_; (refine o_fn (token_s _ _) rfl (by decide) ?_)) | (refine k_box ?_; (refine o_does (d_box_d rfl rfl (by decide)) ?_)))) | (refine k_ops ?_; (first | refine o_go (by first | exact .inl rfl | exact .inr ⟨_, _, _, rfl, rfl, rfl⟩) ?_ | refine o_nil ?_)) | (refine k_run ?_; (first | refine r_seq ?_ | refine r_region ?_ | refine r_skip ?_ | refine r_block ?_ | refine r_cond rfl (fun _ => ?_) (fun _ => ?_))))
  · refine r_nil 4 rfl ?_
    refine r_ret Try.func17 _ (res_one rfl rfl) ⟨?_, rfl⟩
    simp_all [down, ints]
  · have ht : token c i = true := by simp_all
    refine r_loop ?_
    refine r_less (r_inv (fun k : Nat => ⟨28, [(1, I .i64 i), (2, .ptr (0, 2) 0), (5, .ref (0, 5)), (13, I .i64 c.tokens.length), (14, I .i64 k)], [(5, .row 3 1 ((sel k (fun k => head c k == i)).map fun x => [Dint x])), (2, .box (c.cs.map .d))], H⟩)
      (fun k => k ≤ c.tokens.length) (fun k => c.tokens.length - k) ?_ 0 (by omega)) rfl rfl
    intro k hk ih
    have hlen := sel_len k (fun k => head c k == i)
    repeat' (first | (refine k_op1 ?_; (first | refine o_sv rfl (by decide) ?_ | (refine k_load ?_; (refine o_val (v_loada rfl rfl rfl) rfl rfl (by decide) ?_)) | (refine k_bin ?_; (refine o_val (v_add (wi64 (by omega) (by omega))) rfl rfl (by decide) ?_)) | (refine k_blt ?_; (refine o_app1 rfl rfl _ rfl rfl rfl rfl rfl rfl rfl (by decide) (by omega) ?_)) | (refine k_call ?_; (refine o_fn (head_s _ _ (by omega)) rfl (by decide) ?_)) | (refine k_lit ?_; (refine o_lit rfl rfl rfl rfl rfl rfl rfl rfl (by decide) ?_)))) | (refine k_ops ?_; (first | refine o_go (by first | exact .inl rfl | exact .inr ⟨_, _, _, rfl, rfl, rfl⟩) ?_ | refine o_nil ?_)) | (refine k_run ?_; (first | refine r_seq ?_ | refine r_region ?_ | refine r_skip ?_ | refine r_block ?_ | refine r_inBlock ?_ | refine r_if rfl (fun _ => ?_) (fun _ => ?_) | refine r_exit rfl ?_)))
    · rename_i hj hlt
      refine r_ren 25 5 rfl rfl ?_
      rw [← sel_yes (p := fun k => head c k == i) (by simpa using hlt)]
      exact r_less (ih (k + 1) (by omega) (by omega)) rfl rfl
    · rename_i hj hlt
      rw [← sel_no (n := k) (p := fun k => head c k == i) (by simpa using hlt)]
      exact r_less (ih (k + 1) (by omega) (by omega)) rfl rfl
    · rename_i hj
      have e : k = c.tokens.length := by omega
      subst e
      refine r_freeze 5 rfl ?_
      refine r_ret Try.func17 _ (res_one rfl rfl) ⟨?_, rfl⟩
      simp [down, ht, ints]
end Go.Proofs.Ytfpdfcjohminlaa
namespace Go.Proofs.Ytfpdfcjohminlaa
open Go.Ab
attribute [local irreducible] Run Ops Op1 Does Val Tr PureF Eff1

theorem under_s (c : Corpus) (i : Int) (hc : c.tokens.length ≤ 1000000) : PureF Try.prog 19 [c.d, I .i64 i] (.d (ints (under c i))) := by
  refine pure_of fun H => ?_
  refine spec_of Try.func19 (by kernel_rfl) rfl (by simp) ?_
  dsimp only [Try.f19]
  repeat' (first | (refine k_op1 ?_; (first | refine o_nil_row rfl rfl rfl (by decide) ?_ | refine o_sv rfl (by decide) ?_ | (refine k_load ?_; (first | refine o_val (v_loada rfl rfl rfl) rfl rfl (by decide) ?_ | refine o_val (v_load rfl rfl rfl rfl) rfl rfl (by decide) ?_)) | (refine k_field ?_; (refine o_val (v_field rfl rfl) rfl rfl (by decide) ?_)) | (refine k_blt ?_; (refine o_val (v_lenm rfl) rfl rfl (by decide) ?_)) | (refine k_call ?_; (refine o_fn (token_s _ _) rfl (by decide) ?_)) | (refine k_box ?_; (refine o_does (d_box_d rfl rfl (by decide)) ?_)))) | (refine k_ops ?_; (first | refine o_go (by first | exact .inl rfl | exact .inr ⟨_, _, _, rfl, rfl, rfl⟩) ?_ | refine o_nil ?_)) | (refine k_run ?_; (first | refine r_seq ?_ | refine r_region ?_ | refine r_skip ?_ | refine r_block ?_ | refine r_cond rfl (fun _ => ?_) (fun _ => ?_))))
  · refine r_nil 4 rfl ?_
    refine r_ret Try.func19 _ (res_one rfl rfl) ⟨?_, rfl⟩
    simp_all [under, ints]
  · have ht : token c i = true := by simp_all
    refine r_loop ?_
    refine r_less (r_inv (fun k : Nat => ⟨33, [(1, I .i64 i), (2, .ptr (0, 2) 0), (5, .ref (0, 5)), (13, I .i64 c.tokens.length), (14, I .i64 k)], [(5, .row 3 1 ((sel k (fun k => ((k : Int) == i) || inB (up c k) i)).map fun x => [Dint x])), (2, .box (c.cs.map .d))], H⟩)
      (fun k => k ≤ c.tokens.length) (fun k => c.tokens.length - k) ?_ 0 (by omega)) rfl rfl
    intro k hk ih
    have hlen := sel_len k (fun k => ((k : Int) == i) || inB (up c k) i)
    have hup := up_len c k
    repeat' (first | (refine k_op1 ?_; (first | refine o_sv rfl (by decide) ?_ | (refine k_load ?_; (refine o_val (v_loada rfl rfl rfl) rfl rfl (by decide) ?_)) | (refine k_bin ?_; (refine o_val (v_add (wi64 (by omega) (by omega))) rfl rfl (by decide) ?_)) | (refine k_blt ?_; (refine o_app1 rfl rfl _ rfl rfl rfl rfl rfl rfl rfl (by decide) (by omega) ?_)) | (refine k_call ?_; (first | refine o_fn (up_s _ _ hc) rfl (by decide) ?_ | refine o_fn (contains_s _ _ (by omega)) rfl (by decide) ?_)) | (refine k_lit ?_; (refine o_lit rfl rfl rfl rfl rfl rfl rfl rfl (by decide) ?_)))) | (refine k_ops ?_; (first | refine o_go (by first | exact .inl rfl | exact .inr ⟨_, _, _, rfl, rfl, rfl⟩) ?_ | refine o_nil ?_ | refine o_no rfl rfl (by decide) ?_ | refine o_casep rfl rfl (fun _ => ?_) (fun _ => ?_))) | (refine k_run ?_; (first | refine r_seq ?_ | refine r_region ?_ | refine r_true rfl ?_ | refine r_skip ?_ | refine r_block ?_ | refine r_inBlock ?_ | refine r_if rfl (fun _ => ?_) (fun _ => ?_) | refine r_exit rfl ?_)))
    · rename_i hj hki
      refine r_ren 30 5 rfl rfl ?_
      rw [← sel_yes (p := fun k => ((k : Int) == i) || inB (up c k) i) (by simp [hki])]
      exact r_less (ih (k + 1) (by omega) (by omega)) rfl rfl
    · rename_i hj hki hin
      refine r_ren 30 5 rfl rfl ?_
      rw [← sel_yes (p := fun k => ((k : Int) == i) || inB (up c k) i) (by simp [inB, hin])]
      exact r_less (ih (k + 1) (by omega) (by omega)) rfl rfl
    · rename_i hj hki hin
      rw [← sel_no (n := k) (p := fun k => ((k : Int) == i) || inB (up c k) i) (by simp [inB, hin, hki])]
      exact r_less (ih (k + 1) (by omega) (by omega)) rfl rfl
    · rename_i hj
      have e : k = c.tokens.length := by omega
      subst e
      refine r_freeze 5 rfl ?_
      refine r_ret Try.func19 _ (res_one rfl rfl) ⟨?_, rfl⟩
      simp [under, ht, ints]
end Go.Proofs.Ytfpdfcjohminlaa
namespace Go.Proofs.Ytfpdfcjohminlaa
open Go.Ab

/-- what all corpora that are made have -/
structure Wf (c : Corpus) : Prop where
  tok : c.tokens.length ≤ 1000
  tok0 : 0 < c.tokens.length
  rel : c.rels.length = c.heads.length
  hd : c.heads = [] ∨ c.heads.length = c.tokens.length
  acyc : ∃ rank : Nat → Nat, ∀ (i : Nat) (h : Int), c.heads[i]? = some h → h = -1 ∨ (0 ≤ h ∧ h.toNat < c.tokens.length ∧ rank h.toNat < rank i ∧ rank i < c.tokens.length)

theorem token_iff (c : Corpus) (i : Int) : token c i = true ↔ 0 ≤ i ∧ i < c.tokens.length := by simp [token]

theorem head_cases {c : Corpus} (h : Wf c) {i : Int} (hi : 0 ≤ i) : head c i = -1 ∨ token c (head c i) = true := by
  unfold head
  split
  · split
    · rename_i h1; exact .inr h1
    · exact .inl rfl
  · exact .inl rfl

/-- a rank of the tokens that falls on the way up -/
theorem rank_of {c : Corpus} (h : Wf c) : ∃ rank : Nat → Nat, ∀ i : Int, 0 ≤ i → head c i = -1 ∨ (token c (head c i) = true ∧ rank (head c i).toNat < rank i.toNat ∧ rank i.toNat < c.tokens.length) := by
  obtain ⟨rank, hr⟩ := h.acyc
  refine ⟨rank, fun i hi => ?_⟩
  rcases head_cases h hi with h1 | h1
  · exact .inl h1
  · have hne : head c i ≠ -1 := fun e => by rw [e] at h1; simp [token] at h1
    cases hq : c.heads[i.toNat]? with
    | none => simp [head, hq] at hne
    | some x =>
      have hx : head c i = x := by
        simp only [head, hq] at hne ⊢
        split
        · rfl
        · rename_i h2; simp [h2] at hne
      rw [hx] at h1 ⊢
      rcases hr _ _ hq with e | ⟨a, b, d, e⟩
      · exact .inl e
      · exact .inr ⟨h1, d, e⟩

theorem upFrom_stab {c : Corpus} {rank : Nat → Nat} (hr : ∀ i : Int, 0 ≤ i → head c i = -1 ∨ (token c (head c i) = true ∧ rank (head c i).toNat < rank i.toNat ∧ rank i.toNat < c.tokens.length)) :
    ∀ (n m : Nat) (i : Int), (i = -1 ∨ (0 ≤ i ∧ rank i.toNat < n ∧ rank i.toNat < m)) → upFrom c n i = upFrom c m i := by
  intro n
  induction n with
  | zero =>
    intro m i hi
    rcases hi with rfl | ⟨_, h, _⟩
    · cases m <;> simp [upFrom]
    · omega
  | succ n ih =>
    intro m i hi
    rcases hi with rfl | ⟨h0, h1, h2⟩
    · cases m <;> simp [upFrom]
    · cases m with
      | zero => omega
      | succ m =>
        simp only [upFrom, h0, if_true]
        congr 1
        refine ih m _ ?_
        rcases hr i h0 with h | ⟨h, h', _⟩
        · exact .inl h
        · rw [token_iff] at h
          exact .inr ⟨h.1, by omega, by omega⟩

/-- the way up, one step at a time -/
theorem up_step {c : Corpus} (h : Wf c) {i : Int} (hi : token c i = true) : up c i = if head c i = -1 then [] else head c i :: up c (head c i) := by
  obtain ⟨rank, hr⟩ := rank_of h
  have h0 := ((token_iff c i).1 hi).1
  simp only [up, hi, if_true]
  rcases hr i h0 with h1 | ⟨h1, h2, h3⟩
  · rw [h1]
    obtain ⟨n, hn⟩ : ∃ n, c.tokens.length = n + 1 := ⟨c.tokens.length - 1, by have := h.tok0; omega⟩
    rw [hn]; simp [upFrom]
  · have hh := (token_iff c _).1 h1
    have hne : head c i ≠ -1 := by omega
    rw [if_neg hne, h1, if_pos rfl]
    obtain ⟨n, hn⟩ : ∃ n, c.tokens.length = n + 1 := ⟨c.tokens.length - 1, by have := h.tok0; omega⟩
    rw [hn, upFrom, if_pos hh.1, ← hn]
    congr 1
    refine upFrom_stab hr _ _ _ ?_
    rcases hr _ hh.1 with h4 | ⟨h4, h5, _⟩
    · exact .inl h4
    · exact .inr ⟨((token_iff c _).1 h4).1, by omega, by omega⟩
theorem up_none {c : Corpus} {i : Int} (hi : token c i = false) : up c i = [] := by simp [up, hi]

/-- a measure for walking up -/
def depth (c : Corpus) (i : Int) : Nat := (up c i).length
theorem depth_step {c : Corpus} (h : Wf c) {i : Int} (hi : token c i = true) (hn : head c i ≠ -1) : depth c i = depth c (head c i) + 1 := by
  simp [depth, up_step h hi, hn]
theorem head_token {c : Corpus} (h : Wf c) {i : Int} (hi : 0 ≤ i) (hn : head c i ≠ -1) : token c (head c i) = true := by
  rcases head_cases h hi with e | e
  · exact absurd e hn
  · exact e
end Go.Proofs.Ytfpdfcjohminlaa
namespace Go.Proofs.Ytfpdfcjohminlaa
open Go.Ab
attribute [local irreducible] Run Ops Op1 Does Val Tr PureF Eff1

theorem rtoken_s (c : Corpus) (i : Int) : PureF Try.prog 38 [c.d, I .i64 i] (B (token c i)) := by
  refine pure_of fun H => ?_
  refine spec_of Try.func38 (by kernel_rfl) rfl (by simp) ?_
  dsimp only [Try.f38]
  repeat' (first | (refine k_op1 ?_; (first | refine o_sv rfl (by decide) ?_ | (refine k_load ?_; (refine o_val (v_load rfl rfl rfl rfl) rfl rfl (by decide) ?_)) | (refine k_field ?_; (refine o_val (v_field rfl rfl) rfl rfl (by decide) ?_)) | (refine k_blt ?_; (refine o_val (v_lenm rfl) rfl rfl (by decide) ?_)) | (refine k_box ?_; (refine o_does (d_box_d rfl rfl (by decide)) ?_)))) | (refine k_ops ?_; (first | refine o_go (by first | exact .inl rfl | exact .inr ⟨_, _, _, rfl, rfl, rfl⟩) ?_ | refine o_nil ?_ | refine o_no rfl rfl (by decide) ?_ | refine o_casep rfl rfl (fun _ => ?_) (fun _ => ?_))) | (refine k_run ?_; (first | refine r_seq ?_ | refine r_region ?_)))
  all_goals refine r_ret Try.func38 _ (res_one rfl rfl) ⟨?_, rfl⟩
  all_goals simp [token, *]

def relAt (c : Corpus) (i : Int) : Str := match c.rels[i.toNat]? with
  | some r => r
  | none => ⟨#[]⟩

theorem rhead_s {c : Corpus} (hw : Wf c) {i : Int} (hi : token c i = true) : PureF Try.prog 39 [c.d, I .i64 i] (.tup [I .i64 (head c i), S (relAt c i)]) := by
  refine pure_of fun H => ?_
  refine spec_of Try.func39 (by kernel_rfl) rfl (by simp) ?_
  dsimp only [Try.f39]
  have hti := (token_iff c i).1 hi
  repeat' (first | (refine k_op1 ?_; (first | refine o_sv rfl (by decide) ?_ | (refine k_load ?_; (refine o_val (v_load rfl rfl rfl rfl) rfl rfl (by decide) ?_)) | (refine k_field ?_; (refine o_val (v_field rfl rfl) rfl rfl (by decide) ?_)) | (refine k_blt ?_; (refine o_val (v_lenm rfl) rfl rfl (by decide) ?_)) | (refine k_box ?_; (refine o_does (d_box_d rfl rfl (by decide)) ?_)))) | (refine k_ops ?_; (first | refine o_go (by first | exact .inl rfl | exact .inr ⟨_, _, _, rfl, rfl, rfl⟩) ?_ | refine o_nil ?_)) | (refine k_run ?_; (first | refine r_seq ?_ | refine r_region ?_ | refine r_skip ?_ | refine r_tr ?_ | refine r_if rfl (fun _ => ?_) (fun _ => ?_))) | (refine k_tr ?_; (first | refine t_sv rfl (by first | exact rfl | exact ⟨_, rfl, rfl, rfl⟩) (by decide) ?_ | (refine kt_load ?_; (refine t_val (v_load rfl rfl rfl rfl) (by first | exact rfl | exact ⟨_, rfl, rfl, rfl⟩) rfl rfl (by decide) ?_)) | (refine kt_field ?_; (refine t_val (v_field rfl rfl) (by first | exact rfl | exact ⟨_, rfl, rfl, rfl⟩) rfl rfl (by decide) ?_)))))
  · rename_i h0
    refine r_ret Try.func39 _ (res_two rfl rfl rfl) ⟨?_, rfl⟩
    have h1 : c.heads.length = 0 := by simpa using h0
    have h2 := hw.rel
    simp [head, relAt, List.getElem?_eq_none (l := c.heads) (i := i.toNat) (by omega), List.getElem?_eq_none (l := c.rels) (i := i.toNat) (by omega)]
  · rename_i h0
    have h1 : c.heads.length = c.tokens.length := by
      rcases hw.hd with h | h
      · simp [h] at h0
      · exact h
    obtain ⟨x, hx⟩ : ∃ x, c.heads[i.toNat]? = some x := ⟨_, List.getElem?_eq_getElem (by omega)⟩
    obtain ⟨y, hy⟩ : ∃ y, c.rels[i.toNat]? = some y := ⟨_, List.getElem?_eq_getElem (by have := hw.rel; omega)⟩
    repeat' ((refine k_tr ?_; (first | (refine kt_end ?_; refine t_end mix (by kernel_rfl) ?_) | refine t_sv rfl (by first | exact rfl | exact ⟨_, rfl, rfl, rfl⟩) (by decide) ?_ | (refine kt_load ?_; (first | refine t_val (v_load rfl rfl rfl rfl) (by first | exact rfl | exact ⟨_, rfl, rfl, rfl⟩) rfl rfl (by decide) ?_ | refine t_val (v_loade rfl rfl rfl) (by first | exact rfl | exact ⟨_, rfl, rfl, rfl⟩) rfl rfl (by decide) ?_)) | (refine kt_field ?_; (refine t_val (v_field rfl rfl) (by first | exact rfl | exact ⟨_, rfl, rfl, rfl⟩) rfl rfl (by decide) ?_)) | (refine kt_index ?_; (first | refine t_val (v_index rfl hti.1 (idxi hx) rfl) (by first | exact rfl | exact ⟨_, rfl, rfl, rfl⟩) rfl rfl (by decide) ?_ | refine t_val (v_index rfl hti.1 (idxi hy) rfl) (by first | exact rfl | exact ⟨_, rfl, rfl, rfl⟩) rfl rfl (by decide) ?_)))))
    skip
    refine r_ret Try.func39 _ (res_two rfl rfl rfl) ⟨?_, rfl⟩
    have hh : head c i = x := by
      obtain ⟨rank, hr⟩ := hw.acyc
      simp only [head, hx]
      rcases hr _ _ hx with e | ⟨a, b, _⟩
      · subst e; simp [token]
      · rw [if_pos]; rw [token_iff]; omega
    simp [hh, relAt, hy]
end Go.Proofs.Ytfpdfcjohminlaa
namespace Go.Proofs.Ytfpdfcjohminlaa
open Go.Ab
attribute [local irreducible] Run Ops Op1 Does Val Tr PureF Eff1

def upOf (c : Corpus) (h : Int) : List Int := if h = -1 then [] else h :: up c h
theorem up_upOf {c : Corpus} (h : Wf c) {i : Int} (hi : token c i = true) : up c i = upOf c (head c i) := by rw [up_step h hi]; rfl

theorem rup_s {c : Corpus} (hw : Wf c) (i : Int) : PureF Try.prog 16 [c.d, I .i64 i] (.d (ints (up c i))) := by
  refine pure_of fun H => ?_
  refine spec_of Try.func16 (by kernel_rfl) rfl (by simp) ?_
  dsimp only [Try.f16]
  repeat' (first | (refine k_op1 ?_; (first | refine o_nil_row rfl rfl rfl (by decide) ?_ | refine o_sv rfl (by decide) ?_ | (refine k_load ?_; (refine o_val (v_loada rfl rfl rfl) rfl rfl (by decide) ?_)) | (refine k_call ?_; (refine o_fn (rtoken_s _ _) rfl (by decide) ?_)) | (refine k_box ?_; (refine o_does (d_box_d rfl rfl (by decide)) ?_)))) | (refine k_ops ?_; (first | refine o_go (by first | exact .inl rfl | exact .inr ⟨_, _, _, rfl, rfl, rfl⟩) ?_ | refine o_nil ?_)) | (refine k_run ?_; (first | refine r_seq ?_ | refine r_region ?_ | refine r_skip ?_ | refine r_cond rfl (fun _ => ?_) (fun _ => ?_))))
  · refine r_nil 4 rfl ?_
    refine r_ret Try.func16 _ (res_one rfl rfl) ⟨?_, rfl⟩
    simp_all [up, ints]
  · have ht : token c i = true := by simp_all
    have h0 : 0 ≤ i := ((token_iff c i).1 ht).1
    repeat' (first | (refine k_op1 ?_; (first | refine o_sv rfl (by decide) ?_ | (refine k_call ?_; (refine o_fn (rhead_s hw ht) rfl (by decide) ?_)))) | (refine k_ops ?_; (first | refine o_go (by first | exact .inl rfl | exact .inr ⟨_, _, _, rfl, rfl, rfl⟩) ?_ | refine o_nil ?_)) | (refine k_run ?_; (refine r_block ?_)))
    refine r_loop ?_
    refine r_less (r_inv (fun s : List Int × Int => ⟨31, [(2, .ptr (0, 2) 0), (5, .ref (0, 5)), (6, I .i64 s.2)], [(5, .row 3 1 (s.1.map fun x => [Dint x])), (2, .box (c.cs.map .d))], H⟩)
      (fun s => (s.2 = -1 ∨ token c s.2 = true) ∧ up c i = s.1 ++ upOf c s.2) (fun s => (upOf c s.2).length) ?_ ([], head c i) ⟨head_cases hw h0, by simp [up_upOf hw ht]⟩) rfl rfl
    intro ⟨out, j⟩ ⟨hj, he⟩ ih
    simp only at hj he ih ⊢
    have hlen : out.length ≤ 1000 := by
      have h1 := up_len c i
      have h2 := congrArg List.length he
      have := hw.tok
      simp at h2; omega
    by_cases hj1 : j = -1
    · subst hj1
      repeat' (first | (refine k_op1 ?_; (refine o_sv rfl (by decide) ?_)) | (refine k_ops ?_; (first | refine o_go (by first | exact .inl rfl | exact .inr ⟨_, _, _, rfl, rfl, rfl⟩) ?_ | refine o_nil ?_)) | (refine k_run ?_; (first | refine r_seq ?_ | refine r_region ?_ | refine r_false rfl ?_ | refine r_exit rfl ?_)))
      refine r_freeze 5 rfl ?_
      refine r_ret Try.func16 _ (res_one rfl rfl) ⟨?_, rfl⟩
      rw [he]; simp [upOf, ints]
    · have hjt : token c j = true := by rcases hj with h | h; exact absurd h hj1; exact h
      repeat' (first | (refine k_op1 ?_; (first | refine o_sv rfl (by decide) ?_ | (refine k_load ?_; (refine o_val (v_loada rfl rfl rfl) rfl rfl (by decide) ?_)) | (refine k_blt ?_; (refine o_app1 rfl rfl _ rfl rfl rfl rfl rfl rfl rfl (by decide) (by omega) ?_)) | (refine k_call ?_; (refine o_fn (rhead_s hw hjt) rfl (by decide) ?_)) | (refine k_lit ?_; (refine o_lit rfl rfl rfl rfl rfl rfl rfl rfl (by decide) ?_)))) | (refine k_ops ?_; (first | refine o_go (by first | exact .inl rfl | exact .inr ⟨_, _, _, rfl, rfl, rfl⟩) ?_ | refine o_nil ?_)) | (refine k_run ?_; (first | refine r_seq ?_ | refine r_region ?_ | refine r_skip ?_ | refine r_block ?_ | refine r_inBlock ?_ | refine r_ifn rfl (fun _ => ?_) (fun _ => ?_) | refine r_exit rfl ?_)))
      · refine r_ren 29 5 rfl rfl ?_
        refine r_less (ih (out ++ [j], head c j) ⟨head_cases hw ((token_iff c j).1 hjt).1, ?_⟩ ?_) rfl rfl
        · rw [he, upOf, if_neg hj1, up_upOf hw hjt]; simp
        · rw [upOf, upOf, if_neg hj1, up_upOf hw hjt, upOf]
          simp
      · rename_i h; exact absurd h hj1

theorem rdown_s {c : Corpus} (hw : Wf c) (i : Int) : PureF Try.prog 18 [c.d, I .i64 i] (.d (ints (down c i))) := by
  refine pure_of fun H => ?_
  refine spec_of Try.func18 (by kernel_rfl) rfl (by simp) ?_
  dsimp only [Try.f18]
  repeat' (first | (refine k_op1 ?_; (first | refine o_nil_row rfl rfl rfl (by decide) ?_ | refine o_sv rfl (by decide) ?_ | (refine k_load ?_; (first | refine o_val (v_loada rfl rfl rfl) rfl rfl (by decide) ?_ | refine o_val (v_load rfl rfl rfl rfl) rfl rfl (by decide) ?_)) | (refine k_field ?_; (refine o_val (v_field rfl rfl) rfl rfl (by decide) ?_)) | (refine k_blt ?_; (refine o_val (v_lenm rfl) rfl rfl (by decide) ?_)) | (refine k_call ?_; (refine o_fn (rtoken_s _ _) rfl (by decide) ?_)) | (refine k_box ?_; (refine o_does (d_box_d rfl rfl (by decide)) ?_)))) | (refine k_ops ?_; (first | refine o_go (by first | exact .inl rfl | exact .inr ⟨_, _, _, rfl, rfl, rfl⟩) ?_ | refine o_nil ?_)) | (refine k_run ?_; (first | refine r_seq ?_ | refine r_region ?_ | refine r_skip ?_ | refine r_block ?_ | refine r_cond rfl (fun _ => ?_) (fun _ => ?_))))
  · refine r_nil 4 rfl ?_
    refine r_ret Try.func18 _ (res_one rfl rfl) ⟨?_, rfl⟩
    simp_all [down, ints]
  · have ht : token c i = true := by simp_all
    refine r_loop ?_
    refine r_less (r_inv (fun k : Nat => ⟨34, [(1, I .i64 i), (2, .ptr (0, 2) 0), (5, .ref (0, 5)), (15, I .i64 c.tokens.length), (16, I .i64 k)], [(5, .row 3 1 ((sel k (fun k => head c k == i)).map fun x => [Dint x])), (2, .box (c.cs.map .d))], H⟩)
      (fun k => k ≤ c.tokens.length) (fun k => c.tokens.length - k) ?_ 0 (by omega)) rfl rfl
    intro k hk ih
    have hlen := sel_len k (fun k => head c k == i)
    have htk := hw.tok
    repeat' (first | (refine k_op1 ?_; (first | refine o_sv rfl (by decide) ?_ | (refine k_load ?_; (refine o_val (v_loada rfl rfl rfl) rfl rfl (by decide) ?_)) | (refine k_bin ?_; (refine o_val (v_add (wi64 (by omega) (by omega))) rfl rfl (by decide) ?_)) | (refine k_blt ?_; (refine o_app1 rfl rfl _ rfl rfl rfl rfl rfl rfl rfl (by decide) (by omega) ?_)) | (refine k_call ?_; (refine o_fn (rhead_s hw ((token_iff _ _).2 ⟨by omega, by assumption⟩)) rfl (by decide) ?_)) | (refine k_lit ?_; (refine o_lit rfl rfl rfl rfl rfl rfl rfl rfl (by decide) ?_)))) | (refine k_ops ?_; (first | refine o_go (by first | exact .inl rfl | exact .inr ⟨_, _, _, rfl, rfl, rfl⟩) ?_ | refine o_nil ?_)) | (refine k_run ?_; (first | refine r_seq ?_ | refine r_region ?_ | refine r_skip ?_ | refine r_block ?_ | refine r_inBlock ?_ | refine r_if rfl (fun _ => ?_) (fun _ => ?_) | refine r_exit rfl ?_)))
    · rename_i hj hlt
      refine r_ren 31 5 rfl rfl ?_
      rw [← sel_yes (p := fun k => head c k == i) (by simpa using hlt)]
      exact r_less (ih (k + 1) (by omega) (by omega)) rfl rfl
    · rename_i hj hlt
      rw [← sel_no (n := k) (p := fun k => head c k == i) (by simpa using hlt)]
      exact r_less (ih (k + 1) (by omega) (by omega)) rfl rfl
    · rename_i hj
      have e : k = c.tokens.length := by omega
      subst e
      refine r_freeze 5 rfl ?_
      refine r_ret Try.func18 _ (res_one rfl rfl) ⟨?_, rfl⟩
      simp [down, ht, ints]

theorem runder_s {c : Corpus} (hw : Wf c) (i : Int) : PureF Try.prog 20 [c.d, I .i64 i] (.d (ints (under c i))) := by
  refine pure_of fun H => ?_
  refine spec_of Try.func20 (by kernel_rfl) rfl (by simp) ?_
  dsimp only [Try.f20]
  repeat' (first | (refine k_op1 ?_; (first | refine o_nil_row rfl rfl rfl (by decide) ?_ | refine o_sv rfl (by decide) ?_ | (refine k_load ?_; (first | refine o_val (v_loada rfl rfl rfl) rfl rfl (by decide) ?_ | refine o_val (v_load rfl rfl rfl rfl) rfl rfl (by decide) ?_)) | (refine k_field ?_; (refine o_val (v_field rfl rfl) rfl rfl (by decide) ?_)) | (refine k_blt ?_; (refine o_val (v_lenm rfl) rfl rfl (by decide) ?_)) | (refine k_call ?_; (refine o_fn (rtoken_s _ _) rfl (by decide) ?_)) | (refine k_box ?_; (refine o_does (d_box_d rfl rfl (by decide)) ?_)))) | (refine k_ops ?_; (first | refine o_go (by first | exact .inl rfl | exact .inr ⟨_, _, _, rfl, rfl, rfl⟩) ?_ | refine o_nil ?_)) | (refine k_run ?_; (first | refine r_seq ?_ | refine r_region ?_ | refine r_skip ?_ | refine r_block ?_ | refine r_cond rfl (fun _ => ?_) (fun _ => ?_))))
  · refine r_nil 4 rfl ?_
    refine r_ret Try.func20 _ (res_one rfl rfl) ⟨?_, rfl⟩
    simp_all [under, ints]
  · have ht : token c i = true := by simp_all
    refine r_loop ?_
    refine r_less (r_inv (fun k : Nat => ⟨33, [(1, I .i64 i), (2, .ptr (0, 2) 0), (5, .ref (0, 5)), (13, I .i64 c.tokens.length), (14, I .i64 k)], [(5, .row 3 1 ((sel k (fun k => ((k : Int) == i) || inB (up c k) i)).map fun x => [Dint x])), (2, .box (c.cs.map .d))], H⟩)
      (fun k => k ≤ c.tokens.length) (fun k => c.tokens.length - k) ?_ 0 (by omega)) rfl rfl
    intro k hk ih
    have hlen := sel_len k (fun k => ((k : Int) == i) || inB (up c k) i)
    have hup := up_len c k
    have htk := hw.tok
    repeat' (first | (refine k_op1 ?_; (first | refine o_sv rfl (by decide) ?_ | (refine k_load ?_; (refine o_val (v_loada rfl rfl rfl) rfl rfl (by decide) ?_)) | (refine k_bin ?_; (refine o_val (v_add (wi64 (by omega) (by omega))) rfl rfl (by decide) ?_)) | (refine k_blt ?_; (refine o_app1 rfl rfl _ rfl rfl rfl rfl rfl rfl rfl (by decide) (by omega) ?_)) | (refine k_call ?_; (first | refine o_fn (rup_s hw _) rfl (by decide) ?_ | refine o_fn (in_s _ _ (by omega)) rfl (by decide) ?_)) | (refine k_lit ?_; (refine o_lit rfl rfl rfl rfl rfl rfl rfl rfl (by decide) ?_)))) | (refine k_ops ?_; (first | refine o_go (by first | exact .inl rfl | exact .inr ⟨_, _, _, rfl, rfl, rfl⟩) ?_ | refine o_nil ?_ | refine o_no rfl rfl (by decide) ?_ | refine o_casep rfl rfl (fun _ => ?_) (fun _ => ?_))) | (refine k_run ?_; (first | refine r_seq ?_ | refine r_region ?_ | refine r_true rfl ?_ | refine r_skip ?_ | refine r_block ?_ | refine r_inBlock ?_ | refine r_if rfl (fun _ => ?_) (fun _ => ?_) | refine r_exit rfl ?_)))
    · rename_i hj hki
      refine r_ren 30 5 rfl rfl ?_
      rw [← sel_yes (p := fun k => ((k : Int) == i) || inB (up c k) i) (by simp [hki])]
      exact r_less (ih (k + 1) (by omega) (by omega)) rfl rfl
    · rename_i hj hki hin
      refine r_ren 30 5 rfl rfl ?_
      rw [← sel_yes (p := fun k => ((k : Int) == i) || inB (up c k) i) (by simp [inB, hin])]
      exact r_less (ih (k + 1) (by omega) (by omega)) rfl rfl
    · rename_i hj hki hin
      rw [← sel_no (n := k) (p := fun k => ((k : Int) == i) || inB (up c k) i) (by simp [inB, hin, hki])]
      exact r_less (ih (k + 1) (by omega) (by omega)) rfl rfl
    · rename_i hj
      have e : k = c.tokens.length := by omega
      subst e
      refine r_freeze 5 rfl ?_
      refine r_ret Try.func20 _ (res_one rfl rfl) ⟨?_, rfl⟩
      simp [under, ht, ints]
end Go.Proofs.Ytfpdfcjohminlaa
namespace Go.Proofs.Ytfpdfcjohminlaa
open Go.Ab
attribute [local irreducible] Run Ops Op1 Does Val Tr PureF Eff1

def modv (x n : Int) : Int := if n < 1 then 0 else x % n
theorem modv_range {x n : Int} (h : 1 ≤ n) : 0 ≤ modv x n ∧ modv x n < n := by
  simp only [modv, if_neg (show ¬ n < 1 by omega)]
  exact ⟨Int.emod_nonneg _ (by omega), Int.emod_lt_of_pos _ (by omega)⟩
theorem tmod_mod {x n : Int} (hn : 0 < n) : x.tmod n = if x % n = 0 then 0 else if x < 0 then x % n - n else x % n := by
  have h1 := Int.tmod_eq_emod (a := x) (b := n)
  rw [h1]
  have h0 := Int.emod_nonneg x (show n ≠ 0 by omega)
  by_cases hd : n ∣ x
  · have : x % n = 0 := Int.emod_eq_zero_of_dvd hd
    simp [this, hd]
  · have : x % n ≠ 0 := fun e => hd (Int.dvd_of_emod_eq_zero e)
    by_cases hx : x < 0
    · have : ¬ 0 ≤ x := by omega
      simp [*]; omega
    · have : 0 ≤ x := by omega
      simp [*]

theorem mod_s (x n : Int) (hn : -9223372036854775808 ≤ n ∧ n ≤ 9223372036854775807) : PureF Try.prog 13 [I .i64 x, I .i64 n] (I .i64 (modv x n)) := by
  refine pure_of fun H => ?_
  refine spec_of Try.func13 (by kernel_rfl) rfl (by simp) ?_
  dsimp only [Try.f13]
  by_cases hn1 : n < 1
  · repeat' (first | (refine k_op1 ?_; (refine o_sv rfl (by decide) ?_)) | (refine k_ops ?_; (first | refine o_go (by first | exact .inl rfl | exact .inr ⟨_, _, _, rfl, rfl, rfl⟩) ?_ | refine o_nil ?_)) | (refine k_run ?_; (first | refine r_seq ?_ | refine r_region ?_ | refine r_skip ?_ | refine r_if rfl (fun _ => ?_) (fun _ => ?_))))
    · refine r_ret Try.func13 _ (res_one rfl rfl) ⟨?_, rfl⟩
      simp [modv, hn1]
    · omega
  · have h0 := Int.emod_nonneg x (show n ≠ 0 by omega)
    have h1 := Int.emod_lt_of_pos x (show 0 < n by omega)
    have ht := tmod_mod (x := x) (n := n) (by omega)
    have hb : -n < x.tmod n ∧ x.tmod n < n := by rw [ht]; split <;> (try split) <;> omega
    repeat' (first | (refine k_op1 ?_; (first | refine o_sv rfl (by decide) ?_ | (refine k_bin ?_; (first | refine o_val (v_trem (by omega)) rfl rfl (by decide) ?_ | refine o_val (v_add (wi64 (by omega) (by omega))) rfl rfl (by decide) ?_)))) | (refine k_ops ?_; (first | refine o_go (by first | exact .inl rfl | exact .inr ⟨_, _, _, rfl, rfl, rfl⟩) ?_ | refine o_nil ?_)) | (refine k_run ?_; (first | refine r_seq ?_ | refine r_region ?_ | refine r_skip ?_ | refine r_if rfl (fun _ => ?_) (fun _ => ?_))))
    · omega
    · rename_i hneg
      refine r_ret Try.func13 _ (res_one rfl rfl) ⟨?_, rfl⟩
      have : x.tmod n + n = x % n := by rw [ht] at hneg ⊢; split at hneg <;> (try split at hneg) <;> simp_all <;> omega
      simp [modv, hn1, this]
    · rename_i hneg
      refine r_ret Try.func13 _ (res_one rfl rfl) ⟨?_, rfl⟩
      have : x.tmod n = x % n := by rw [ht] at hneg ⊢; split at hneg <;> (try split at hneg) <;> simp_all <;> omega
      simp [modv, hn1, this]
end Go.Proofs.Ytfpdfcjohminlaa
