/-
  NARROWER THAN 'FOR EVERY INPUT', by the rows' own cells (each row's printed sentence says how): RegexValidates: loops, laid · RegexStays: laid · RegexCases: loops, laid · RegexCounts: loops, laid · RegexAlgebra: loops, laid · RegexSettles: laid.
  DERIVED. THE GIVEN ROWS OF THIS SEAT. 6 by the template 'for every input the law returns true; each argument reads behind the call as it read before'; 0 by the template 'total and deterministic' (their statements: YtjmbjgecfpggdaaDoorTotals.lean).
  GIVEN WITH THE SEED: the statements are not yours to turn. If you find one false, say at which input.
  Laid BY PROGRAM, IN A SANDBOX (cutbox-rows.mjs): the forced cells as the released guide's own fill.sh prints them over the translation 1da6175e1f0e128c… (all of the seat's roots in one cut). By AI agents, Wed Nov 11 2026. No macro, syntax, notation, axiom, sorry.
-/
import Derived.Test.YtjmbjgecfpggdaaDoorChecked
import GoSem.PinnedTables
import GoSem.Claim
import GoSem.ClaimJoined
import GoSem.ClaimMapViews
import Derived.JoinedTies
import Derived.KernelRfl
namespace Go.Proofs.YtjmbjgecfpggdaaDoor
/- THE CELL 'sum', in the pinned program and in every row, IS THE sha256 OF THE DUMP (.gsa) THAT YtjmbjgecfpggdaaDoorProg.lean LOADS. Nothing in Lean hashes anything: it is a label: what it is worth is what the hold of that sum in a sandbox is worth. -/
noncomputable def Tryd.pinned : Pinned := { name := "ytjmbjgecfpggdaadoor", sum := "1da6175e1f0e128c3a2bcc7bf42ee78ec6f58bd2f77919e52ee80d65c69bd7b4", checked := Tryd.checked }
namespace Rows
def none {H : Type} : Left H := { results := [], args := [] }

/- WHAT THE LISTED PACKAGE-LEVEL VARIABLES READ AS WHEN THE CALL BEGINS. Each datum BY PROGRAM (the guide's laid-datum.mjs) off the statement by which the dump's own 'gosem.cut.vars' lays the variable. In a bare row this is a premise. The card (YtjmbjgecfpggdaaDoorCards.lean) ties it to the program's text. -/
def laid_unicode_utf8_acceptRanges {H : Type} : DataW H := .agg [.agg [.lit (.int .u8 128), .lit (.int .u8 191)], .agg [.lit (.int .u8 160), .lit (.int .u8 191)], .agg [.lit (.int .u8 128), .lit (.int .u8 159)], .agg [.lit (.int .u8 144), .lit (.int .u8 191)], .agg [.lit (.int .u8 128), .lit (.int .u8 143)], .agg [.lit (.int .u8 0), .lit (.int .u8 0)], .agg [.lit (.int .u8 0), .lit (.int .u8 0)], .agg [.lit (.int .u8 0), .lit (.int .u8 0)], .agg [.lit (.int .u8 0), .lit (.int .u8 0)], .agg [.lit (.int .u8 0), .lit (.int .u8 0)], .agg [.lit (.int .u8 0), .lit (.int .u8 0)], .agg [.lit (.int .u8 0), .lit (.int .u8 0)], .agg [.lit (.int .u8 0), .lit (.int .u8 0)], .agg [.lit (.int .u8 0), .lit (.int .u8 0)], .agg [.lit (.int .u8 0), .lit (.int .u8 0)], .agg [.lit (.int .u8 0), .lit (.int .u8 0)]]
/-- One of Go's own tables, pinned by name: the form's constant. -/
def laid_unicode_utf8_first : DataW Unit := Go.Pinned.utf8First

/-- 'corporalaw19.RegexValidates': WHATEVER THE INPUT: true; the input reads as it did. -/
def regexValidatesSpec : ChangeSpec := { name := "regexValidates", fn := fun _ => fun
  | [d] => { results := [.lit (.bool true)], args := [d] }
  | _ => none }
def regexValidatesRow : OpenClaim := { program := "ytjmbjgecfpggdaadoor", sum := "1da6175e1f0e128c3a2bcc7bf42ee78ec6f58bd2f77919e52ee80d65c69bd7b4", func := "corpora/corporalaw19.RegexValidates", spec := "regexValidates", inPlace := ["internal/bytealg.IndexByteString", "internal/bytealg.IndexString"], unfollowed := true, recurses := true, named := ["unicode/utf8.first", "unicode/utf8.acceptRanges", "internal/bytealg.MaxLen"], loops := true, apart := false, laid := [("unicode/utf8.acceptRanges", laid_unicode_utf8_acceptRanges), ("unicode/utf8.first", laid_unicode_utf8_first)] }
def RegexValidatesSaid : Prop := regexValidatesRow.holds Tryd.pinned (OpenSpec.ofChange regexValidatesSpec)

/-- ITS FALSE NEIGHBOUR: 'it returns false'. Refute it at one input. -/
def regexValidatesWrong : ChangeSpec := { name := "regexValidates", fn := fun _ => fun
  | [d] => { results := [.lit (.bool false)], args := [d] }
  | _ => none }
def RegexValidatesWrongFalsely : Prop := regexValidatesRow.holds Tryd.pinned (OpenSpec.ofChange regexValidatesWrong)

/-- 'corporalaw19.RegexStays': WHATEVER THE INPUT: true; the input reads as it did. -/
def regexStaysSpec : ChangeSpec := { name := "regexStays", fn := fun _ => fun
  | [d1, d2] => { results := [.lit (.bool true)], args := [d1, d2] }
  | _ => none }
def regexStaysRow : OpenClaim := { program := "ytjmbjgecfpggdaadoor", sum := "1da6175e1f0e128c3a2bcc7bf42ee78ec6f58bd2f77919e52ee80d65c69bd7b4", func := "corpora/corporalaw19.RegexStays", spec := "regexStays", inPlace := ["internal/bytealg.IndexByteString", "internal/bytealg.IndexString"], unfollowed := true, recurses := true, named := ["unicode/utf8.first", "unicode/utf8.acceptRanges", "internal/bytealg.MaxLen"], apart := false, laid := [("unicode/utf8.acceptRanges", laid_unicode_utf8_acceptRanges), ("unicode/utf8.first", laid_unicode_utf8_first)] }
def RegexStaysSaid : Prop := regexStaysRow.holds Tryd.pinned (OpenSpec.ofChange regexStaysSpec)

/-- ITS FALSE NEIGHBOUR: 'it returns false'. Refute it at one input. -/
def regexStaysWrong : ChangeSpec := { name := "regexStays", fn := fun _ => fun
  | [d1, d2] => { results := [.lit (.bool false)], args := [d1, d2] }
  | _ => none }
def RegexStaysWrongFalsely : Prop := regexStaysRow.holds Tryd.pinned (OpenSpec.ofChange regexStaysWrong)

/-- 'corporalaw19.RegexCases': WHATEVER THE INPUT: true; the input reads as it did. -/
def regexCasesSpec : ChangeSpec := { name := "regexCases", fn := fun _ => fun
  | [d1, d2] => { results := [.lit (.bool true)], args := [d1, d2] }
  | _ => none }
def regexCasesRow : OpenClaim := { program := "ytjmbjgecfpggdaadoor", sum := "1da6175e1f0e128c3a2bcc7bf42ee78ec6f58bd2f77919e52ee80d65c69bd7b4", func := "corpora/corporalaw19.RegexCases", spec := "regexCases", inPlace := ["internal/bytealg.IndexByteString", "internal/bytealg.IndexString"], unfollowed := true, recurses := true, named := ["unicode/utf8.first", "unicode/utf8.acceptRanges", "internal/bytealg.MaxLen"], loops := true, apart := false, laid := [("unicode/utf8.acceptRanges", laid_unicode_utf8_acceptRanges), ("unicode/utf8.first", laid_unicode_utf8_first)] }
def RegexCasesSaid : Prop := regexCasesRow.holds Tryd.pinned (OpenSpec.ofChange regexCasesSpec)

/-- ITS FALSE NEIGHBOUR: 'it returns false'. Refute it at one input. -/
def regexCasesWrong : ChangeSpec := { name := "regexCases", fn := fun _ => fun
  | [d1, d2] => { results := [.lit (.bool false)], args := [d1, d2] }
  | _ => none }
def RegexCasesWrongFalsely : Prop := regexCasesRow.holds Tryd.pinned (OpenSpec.ofChange regexCasesWrong)

/-- 'corporalaw19.RegexCounts': WHATEVER THE INPUT: true; the input reads as it did. -/
def regexCountsSpec : ChangeSpec := { name := "regexCounts", fn := fun _ => fun
  | [d1, d2, d3] => { results := [.lit (.bool true)], args := [d1, d2, d3] }
  | _ => none }
def regexCountsRow : OpenClaim := { program := "ytjmbjgecfpggdaadoor", sum := "1da6175e1f0e128c3a2bcc7bf42ee78ec6f58bd2f77919e52ee80d65c69bd7b4", func := "corpora/corporalaw19.RegexCounts", spec := "regexCounts", inPlace := ["internal/bytealg.IndexByteString", "internal/bytealg.IndexString"], unfollowed := true, recurses := true, named := ["unicode/utf8.first", "unicode/utf8.acceptRanges", "internal/bytealg.MaxLen"], loops := true, apart := false, laid := [("unicode/utf8.acceptRanges", laid_unicode_utf8_acceptRanges), ("unicode/utf8.first", laid_unicode_utf8_first)] }
def RegexCountsSaid : Prop := regexCountsRow.holds Tryd.pinned (OpenSpec.ofChange regexCountsSpec)

/-- ITS FALSE NEIGHBOUR: 'it returns false'. Refute it at one input. -/
def regexCountsWrong : ChangeSpec := { name := "regexCounts", fn := fun _ => fun
  | [d1, d2, d3] => { results := [.lit (.bool false)], args := [d1, d2, d3] }
  | _ => none }
def RegexCountsWrongFalsely : Prop := regexCountsRow.holds Tryd.pinned (OpenSpec.ofChange regexCountsWrong)

/-- 'corporalaw19.RegexAlgebra': WHATEVER THE INPUT: true; the input reads as it did. -/
def regexAlgebraSpec : ChangeSpec := { name := "regexAlgebra", fn := fun _ => fun
  | [d1, d2, d3] => { results := [.lit (.bool true)], args := [d1, d2, d3] }
  | _ => none }
def regexAlgebraRow : OpenClaim := { program := "ytjmbjgecfpggdaadoor", sum := "1da6175e1f0e128c3a2bcc7bf42ee78ec6f58bd2f77919e52ee80d65c69bd7b4", func := "corpora/corporalaw19.RegexAlgebra", spec := "regexAlgebra", inPlace := ["internal/bytealg.IndexByteString", "internal/bytealg.IndexString"], unfollowed := true, recurses := true, named := ["unicode/utf8.first", "unicode/utf8.acceptRanges", "internal/bytealg.MaxLen"], loops := true, apart := false, laid := [("unicode/utf8.acceptRanges", laid_unicode_utf8_acceptRanges), ("unicode/utf8.first", laid_unicode_utf8_first)] }
def RegexAlgebraSaid : Prop := regexAlgebraRow.holds Tryd.pinned (OpenSpec.ofChange regexAlgebraSpec)

/-- ITS FALSE NEIGHBOUR: 'it returns false'. Refute it at one input. -/
def regexAlgebraWrong : ChangeSpec := { name := "regexAlgebra", fn := fun _ => fun
  | [d1, d2, d3] => { results := [.lit (.bool false)], args := [d1, d2, d3] }
  | _ => none }
def RegexAlgebraWrongFalsely : Prop := regexAlgebraRow.holds Tryd.pinned (OpenSpec.ofChange regexAlgebraWrong)

/-- 'corporalaw19.RegexSettles': WHATEVER THE INPUT: true; the input reads as it did. -/
def regexSettlesSpec : ChangeSpec := { name := "regexSettles", fn := fun _ => fun
  | [d] => { results := [.lit (.bool true)], args := [d] }
  | _ => none }
def regexSettlesRow : OpenClaim := { program := "ytjmbjgecfpggdaadoor", sum := "1da6175e1f0e128c3a2bcc7bf42ee78ec6f58bd2f77919e52ee80d65c69bd7b4", func := "corpora/corporalaw19.RegexSettles", spec := "regexSettles", inPlace := ["internal/bytealg.IndexByteString", "internal/bytealg.IndexString", "internal/abi.NoEscape", "internal/bytealg.MakeNoZero"], unfollowed := true, recurses := true, named := ["unicode/utf8.first", "unicode/utf8.acceptRanges", "internal/bytealg.MaxLen"], apart := false, laid := [("unicode/utf8.acceptRanges", laid_unicode_utf8_acceptRanges), ("unicode/utf8.first", laid_unicode_utf8_first)] }
def RegexSettlesSaid : Prop := regexSettlesRow.holds Tryd.pinned (OpenSpec.ofChange regexSettlesSpec)

/-- ITS FALSE NEIGHBOUR: 'it returns false'. Refute it at one input. -/
def regexSettlesWrong : ChangeSpec := { name := "regexSettles", fn := fun _ => fun
  | [d] => { results := [.lit (.bool false)], args := [d] }
  | _ => none }
def RegexSettlesWrongFalsely : Prop := regexSettlesRow.holds Tryd.pinned (OpenSpec.ofChange regexSettlesWrong)

/- THE SECOND FORM. 'bulk': how many values and letters a reading holds, each counted each time it is reached (what is shared counts as often as it is met; a slice's spare places count too). A statement '..UptoSaid' is the law's where the arguments, and the package variables that the reading takes, are together of bulk at most 1048576: NARROWER than '..Said'. Prove '..Said' where nothing that the law and all that it calls make is longer than what came in: it says more and counts as full. Else prove '..UptoSaid'. A law counts once. -/
mutual
def uptoBulk {H : Type} : DataW H → Nat
  | .lit (.string bytes) => bytes.length + 1
  | .lit _ => 1
  | .nil => 1
  | .ptr d => uptoBulk d + 1
  | .slice elems spare => uptoBulkAll elems + uptoBulkAll spare + 1
  | .agg parts => uptoBulkAll parts + 1
  | .iface _ d => uptoBulk d + 1
  | .map entries => uptoBulkEntries entries + 1
  | .held _ => 1
def uptoBulkAll {H : Type} : List (DataW H) → Nat
  | [] => 0
  | d :: r => uptoBulk d + uptoBulkAll r
def uptoBulkEntries {H : Type} : List (Lit × DataW H) → Nat
  | [] => 0
  | x :: r => uptoBulkEntry x + uptoBulkEntries r
def uptoBulkEntry {H : Type} : Lit × DataW H → Nat
  | (.string bytes, d) => bytes.length + uptoBulk d + 1
  | (_, d) => uptoBulk d + 1
 end
def uptoSmall : (H : Type) → List (DataW H) → Bool := fun _ ds => decide (uptoBulkAll ds ≤ 1048576)
def OpenSpec.upto (s : _root_.Go.ChangeSpec) : _root_.Go.OpenSpec := { _root_.Go.OpenSpec.ofChange s with cond := some uptoSmall }

/-- 'corporalaw19.RegexValidates', WHERE WHAT IT READS IS OF BULK AT MOST 1048576: true; the input reads as it did. -/
def regexValidatesUptoRow : OpenClaim := { program := "ytjmbjgecfpggdaadoor", sum := "1da6175e1f0e128c3a2bcc7bf42ee78ec6f58bd2f77919e52ee80d65c69bd7b4", func := "corpora/corporalaw19.RegexValidates", spec := "regexValidates", inPlace := ["internal/bytealg.IndexByteString", "internal/bytealg.IndexString"], unfollowed := true, recurses := true, named := ["unicode/utf8.first", "unicode/utf8.acceptRanges", "internal/bytealg.MaxLen"], loops := true, apart := false, laid := [("unicode/utf8.acceptRanges", laid_unicode_utf8_acceptRanges), ("unicode/utf8.first", laid_unicode_utf8_first)], narrowed := true }
def RegexValidatesUptoSaid : Prop := regexValidatesUptoRow.holds Tryd.pinned (OpenSpec.upto regexValidatesSpec)

/-- 'corporalaw19.RegexStays', WHERE WHAT IT READS IS OF BULK AT MOST 1048576: true; the input reads as it did. -/
def regexStaysUptoRow : OpenClaim := { program := "ytjmbjgecfpggdaadoor", sum := "1da6175e1f0e128c3a2bcc7bf42ee78ec6f58bd2f77919e52ee80d65c69bd7b4", func := "corpora/corporalaw19.RegexStays", spec := "regexStays", inPlace := ["internal/bytealg.IndexByteString", "internal/bytealg.IndexString"], unfollowed := true, recurses := true, named := ["unicode/utf8.first", "unicode/utf8.acceptRanges", "internal/bytealg.MaxLen"], apart := false, laid := [("unicode/utf8.acceptRanges", laid_unicode_utf8_acceptRanges), ("unicode/utf8.first", laid_unicode_utf8_first)], narrowed := true }
def RegexStaysUptoSaid : Prop := regexStaysUptoRow.holds Tryd.pinned (OpenSpec.upto regexStaysSpec)

/-- 'corporalaw19.RegexCases', WHERE WHAT IT READS IS OF BULK AT MOST 1048576: true; the input reads as it did. -/
def regexCasesUptoRow : OpenClaim := { program := "ytjmbjgecfpggdaadoor", sum := "1da6175e1f0e128c3a2bcc7bf42ee78ec6f58bd2f77919e52ee80d65c69bd7b4", func := "corpora/corporalaw19.RegexCases", spec := "regexCases", inPlace := ["internal/bytealg.IndexByteString", "internal/bytealg.IndexString"], unfollowed := true, recurses := true, named := ["unicode/utf8.first", "unicode/utf8.acceptRanges", "internal/bytealg.MaxLen"], loops := true, apart := false, laid := [("unicode/utf8.acceptRanges", laid_unicode_utf8_acceptRanges), ("unicode/utf8.first", laid_unicode_utf8_first)], narrowed := true }
def RegexCasesUptoSaid : Prop := regexCasesUptoRow.holds Tryd.pinned (OpenSpec.upto regexCasesSpec)

/-- 'corporalaw19.RegexCounts', WHERE WHAT IT READS IS OF BULK AT MOST 1048576: true; the input reads as it did. -/
def regexCountsUptoRow : OpenClaim := { program := "ytjmbjgecfpggdaadoor", sum := "1da6175e1f0e128c3a2bcc7bf42ee78ec6f58bd2f77919e52ee80d65c69bd7b4", func := "corpora/corporalaw19.RegexCounts", spec := "regexCounts", inPlace := ["internal/bytealg.IndexByteString", "internal/bytealg.IndexString"], unfollowed := true, recurses := true, named := ["unicode/utf8.first", "unicode/utf8.acceptRanges", "internal/bytealg.MaxLen"], loops := true, apart := false, laid := [("unicode/utf8.acceptRanges", laid_unicode_utf8_acceptRanges), ("unicode/utf8.first", laid_unicode_utf8_first)], narrowed := true }
def RegexCountsUptoSaid : Prop := regexCountsUptoRow.holds Tryd.pinned (OpenSpec.upto regexCountsSpec)

/-- 'corporalaw19.RegexAlgebra', WHERE WHAT IT READS IS OF BULK AT MOST 1048576: true; the input reads as it did. -/
def regexAlgebraUptoRow : OpenClaim := { program := "ytjmbjgecfpggdaadoor", sum := "1da6175e1f0e128c3a2bcc7bf42ee78ec6f58bd2f77919e52ee80d65c69bd7b4", func := "corpora/corporalaw19.RegexAlgebra", spec := "regexAlgebra", inPlace := ["internal/bytealg.IndexByteString", "internal/bytealg.IndexString"], unfollowed := true, recurses := true, named := ["unicode/utf8.first", "unicode/utf8.acceptRanges", "internal/bytealg.MaxLen"], loops := true, apart := false, laid := [("unicode/utf8.acceptRanges", laid_unicode_utf8_acceptRanges), ("unicode/utf8.first", laid_unicode_utf8_first)], narrowed := true }
def RegexAlgebraUptoSaid : Prop := regexAlgebraUptoRow.holds Tryd.pinned (OpenSpec.upto regexAlgebraSpec)

/-- 'corporalaw19.RegexSettles', WHERE WHAT IT READS IS OF BULK AT MOST 1048576: true; the input reads as it did. -/
def regexSettlesUptoRow : OpenClaim := { program := "ytjmbjgecfpggdaadoor", sum := "1da6175e1f0e128c3a2bcc7bf42ee78ec6f58bd2f77919e52ee80d65c69bd7b4", func := "corpora/corporalaw19.RegexSettles", spec := "regexSettles", inPlace := ["internal/bytealg.IndexByteString", "internal/bytealg.IndexString", "internal/abi.NoEscape", "internal/bytealg.MakeNoZero"], unfollowed := true, recurses := true, named := ["unicode/utf8.first", "unicode/utf8.acceptRanges", "internal/bytealg.MaxLen"], apart := false, laid := [("unicode/utf8.acceptRanges", laid_unicode_utf8_acceptRanges), ("unicode/utf8.first", laid_unicode_utf8_first)], narrowed := true }
def RegexSettlesUptoSaid : Prop := regexSettlesUptoRow.holds Tryd.pinned (OpenSpec.upto regexSettlesSpec)

end Rows
end Go.Proofs.YtjmbjgecfpggdaaDoor
