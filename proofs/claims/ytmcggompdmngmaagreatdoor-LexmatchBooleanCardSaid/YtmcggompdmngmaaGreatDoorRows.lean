/-
  NARROWER THAN 'FOR EVERY INPUT', by the rows' own cells (each row's printed sentence says how): LexmatchSelects: laid · LexmatchVisits: laid · LexmatchLarge: laid · LexmatchRanges: laid · LexmatchCounts: laid · LexmatchPrefixes: laid · LexmatchAgrees: loops, laid · LexmatchBoolean: laid.
  DERIVED. THE GIVEN ROWS OF THIS SEAT. 8 by the template 'for every input the law returns true; each argument reads behind the call as it read before'; 0 by the template 'total and deterministic' (their statements: YtmcggompdmngmaaGreatDoorTotals.lean).
  GIVEN WITH THE SEED: the statements are not yours to turn. If you find one false, say at which input.
  Laid BY PROGRAM, IN A SANDBOX (cutbox-rows.mjs): the forced cells as the released guide's own fill.sh prints them over the translation 68a4584f91c212fc… (all of the seat's roots in one cut). By AI agents, Wed Nov 11 2026. No macro, syntax, notation, axiom, sorry.
-/
import Derived.Test.YtmcggompdmngmaaGreatDoorChecked
import GoSem.PinnedTables
import GoSem.Claim
import GoSem.ClaimJoined
import GoSem.ClaimMapViews
import Derived.JoinedTies
import Derived.KernelRfl
namespace Go.Proofs.YtmcggompdmngmaaGreatDoor
/- THE CELL 'sum', in the pinned program and in every row, IS THE sha256 OF THE DUMP (.gsa) THAT YtmcggompdmngmaaGreatDoorProg.lean LOADS. Nothing in Lean hashes anything: it is a label: what it is worth is what the hold of that sum in a sandbox is worth. -/
noncomputable def Tryz.pinned : Pinned := { name := "ytmcggompdmngmaagreatdoor", sum := "68a4584f91c212fc7da3a4ba0f1cbaea1dc2cc7ad9a95c28da551530fb19b7d4", checked := Tryz.checked }
namespace Rows
def none {H : Type} : Left H := { results := [], args := [] }

/- WHAT THE LISTED PACKAGE-LEVEL VARIABLES READ AS WHEN THE CALL BEGINS. Each datum BY PROGRAM (the guide's laid-datum.mjs) off the statement by which the dump's own 'gosem.cut.vars' lays the variable. In a bare row this is a premise. The card (YtmcggompdmngmaaGreatDoorCards.lean) ties it to the program's text. -/
def laid_unicode_utf8_acceptRanges {H : Type} : DataW H := .agg [.agg [.lit (.int .u8 128), .lit (.int .u8 191)], .agg [.lit (.int .u8 160), .lit (.int .u8 191)], .agg [.lit (.int .u8 128), .lit (.int .u8 159)], .agg [.lit (.int .u8 144), .lit (.int .u8 191)], .agg [.lit (.int .u8 128), .lit (.int .u8 143)], .agg [.lit (.int .u8 0), .lit (.int .u8 0)], .agg [.lit (.int .u8 0), .lit (.int .u8 0)], .agg [.lit (.int .u8 0), .lit (.int .u8 0)], .agg [.lit (.int .u8 0), .lit (.int .u8 0)], .agg [.lit (.int .u8 0), .lit (.int .u8 0)], .agg [.lit (.int .u8 0), .lit (.int .u8 0)], .agg [.lit (.int .u8 0), .lit (.int .u8 0)], .agg [.lit (.int .u8 0), .lit (.int .u8 0)], .agg [.lit (.int .u8 0), .lit (.int .u8 0)], .agg [.lit (.int .u8 0), .lit (.int .u8 0)], .agg [.lit (.int .u8 0), .lit (.int .u8 0)]]
/-- One of Go's own tables, pinned by name: the form's constant. -/
def laid_unicode_utf8_first : DataW Unit := Go.Pinned.utf8First

/-- 'corporalaw21.LexmatchSelects': WHATEVER THE INPUT: true; the input reads as it did. -/
def lexmatchSelectsSpec : ChangeSpec := { name := "lexmatchSelects", fn := fun _ => fun
  | [d1, d2] => { results := [.lit (.bool true)], args := [d1, d2] }
  | _ => none }
def lexmatchSelectsRow : OpenClaim := { program := "ytmcggompdmngmaagreatdoor", sum := "68a4584f91c212fc7da3a4ba0f1cbaea1dc2cc7ad9a95c28da551530fb19b7d4", func := "corpora/corporalaw21.LexmatchSelects", spec := "lexmatchSelects", inPlace := ["internal/bytealg.abigen_runtime_cmpstring", "internal/bytealg.IndexByteString", "internal/bytealg.IndexString"], unfollowed := true, recurses := true, named := ["unicode/utf8.first", "unicode/utf8.acceptRanges", "internal/bytealg.MaxLen"], plainKeys := false, apart := false, laid := [("unicode/utf8.acceptRanges", laid_unicode_utf8_acceptRanges), ("unicode/utf8.first", laid_unicode_utf8_first)] }
def LexmatchSelectsSaid : Prop := lexmatchSelectsRow.holds Tryz.pinned (OpenSpec.ofChange lexmatchSelectsSpec)

/-- ITS FALSE NEIGHBOUR: 'it returns false'. Refute it at one input. -/
def lexmatchSelectsWrong : ChangeSpec := { name := "lexmatchSelects", fn := fun _ => fun
  | [d1, d2] => { results := [.lit (.bool false)], args := [d1, d2] }
  | _ => none }
def LexmatchSelectsWrongFalsely : Prop := lexmatchSelectsRow.holds Tryz.pinned (OpenSpec.ofChange lexmatchSelectsWrong)

/-- 'corporalaw21.LexmatchVisits': WHATEVER THE INPUT: true; the input reads as it did. -/
def lexmatchVisitsSpec : ChangeSpec := { name := "lexmatchVisits", fn := fun _ => fun
  | [d1, d2] => { results := [.lit (.bool true)], args := [d1, d2] }
  | _ => none }
def lexmatchVisitsRow : OpenClaim := { program := "ytmcggompdmngmaagreatdoor", sum := "68a4584f91c212fc7da3a4ba0f1cbaea1dc2cc7ad9a95c28da551530fb19b7d4", func := "corpora/corporalaw21.LexmatchVisits", spec := "lexmatchVisits", inPlace := ["internal/bytealg.abigen_runtime_cmpstring", "internal/bytealg.IndexByteString", "internal/bytealg.IndexString"], unfollowed := true, recurses := true, named := ["unicode/utf8.first", "unicode/utf8.acceptRanges", "internal/bytealg.MaxLen"], plainKeys := false, apart := false, laid := [("unicode/utf8.acceptRanges", laid_unicode_utf8_acceptRanges), ("unicode/utf8.first", laid_unicode_utf8_first)] }
def LexmatchVisitsSaid : Prop := lexmatchVisitsRow.holds Tryz.pinned (OpenSpec.ofChange lexmatchVisitsSpec)

/-- ITS FALSE NEIGHBOUR: 'it returns false'. Refute it at one input. -/
def lexmatchVisitsWrong : ChangeSpec := { name := "lexmatchVisits", fn := fun _ => fun
  | [d1, d2] => { results := [.lit (.bool false)], args := [d1, d2] }
  | _ => none }
def LexmatchVisitsWrongFalsely : Prop := lexmatchVisitsRow.holds Tryz.pinned (OpenSpec.ofChange lexmatchVisitsWrong)

/-- 'corporalaw21.LexmatchLarge': WHATEVER THE INPUT: true; the input reads as it did. -/
def lexmatchLargeSpec : ChangeSpec := { name := "lexmatchLarge", fn := fun _ => fun
  | [d1, d2, d3] => { results := [.lit (.bool true)], args := [d1, d2, d3] }
  | _ => none }
def lexmatchLargeRow : OpenClaim := { program := "ytmcggompdmngmaagreatdoor", sum := "68a4584f91c212fc7da3a4ba0f1cbaea1dc2cc7ad9a95c28da551530fb19b7d4", func := "corpora/corporalaw21.LexmatchLarge", spec := "lexmatchLarge", inPlace := ["internal/bytealg.abigen_runtime_cmpstring", "internal/bytealg.IndexByteString", "internal/bytealg.IndexString"], unfollowed := true, recurses := true, named := ["unicode/utf8.first", "unicode/utf8.acceptRanges", "internal/bytealg.MaxLen"], plainKeys := false, apart := false, laid := [("unicode/utf8.acceptRanges", laid_unicode_utf8_acceptRanges), ("unicode/utf8.first", laid_unicode_utf8_first)] }
def LexmatchLargeSaid : Prop := lexmatchLargeRow.holds Tryz.pinned (OpenSpec.ofChange lexmatchLargeSpec)

/-- ITS FALSE NEIGHBOUR: 'it returns false'. Refute it at one input. -/
def lexmatchLargeWrong : ChangeSpec := { name := "lexmatchLarge", fn := fun _ => fun
  | [d1, d2, d3] => { results := [.lit (.bool false)], args := [d1, d2, d3] }
  | _ => none }
def LexmatchLargeWrongFalsely : Prop := lexmatchLargeRow.holds Tryz.pinned (OpenSpec.ofChange lexmatchLargeWrong)

/-- 'corporalaw21.LexmatchRanges': WHATEVER THE INPUT: true; the input reads as it did. -/
def lexmatchRangesSpec : ChangeSpec := { name := "lexmatchRanges", fn := fun _ => fun
  | [d] => { results := [.lit (.bool true)], args := [d] }
  | _ => none }
def lexmatchRangesRow : OpenClaim := { program := "ytmcggompdmngmaagreatdoor", sum := "68a4584f91c212fc7da3a4ba0f1cbaea1dc2cc7ad9a95c28da551530fb19b7d4", func := "corpora/corporalaw21.LexmatchRanges", spec := "lexmatchRanges", inPlace := ["internal/bytealg.abigen_runtime_cmpstring", "internal/bytealg.IndexByteString", "internal/bytealg.IndexString"], unfollowed := true, recurses := true, named := ["unicode/utf8.first", "unicode/utf8.acceptRanges", "internal/bytealg.MaxLen"], plainKeys := false, apart := false, laid := [("unicode/utf8.acceptRanges", laid_unicode_utf8_acceptRanges), ("unicode/utf8.first", laid_unicode_utf8_first)] }
def LexmatchRangesSaid : Prop := lexmatchRangesRow.holds Tryz.pinned (OpenSpec.ofChange lexmatchRangesSpec)

/-- ITS FALSE NEIGHBOUR: 'it returns false'. Refute it at one input. -/
def lexmatchRangesWrong : ChangeSpec := { name := "lexmatchRanges", fn := fun _ => fun
  | [d] => { results := [.lit (.bool false)], args := [d] }
  | _ => none }
def LexmatchRangesWrongFalsely : Prop := lexmatchRangesRow.holds Tryz.pinned (OpenSpec.ofChange lexmatchRangesWrong)

/-- 'corporalaw21.LexmatchCounts': WHATEVER THE INPUT: true; the input reads as it did. -/
def lexmatchCountsSpec : ChangeSpec := { name := "lexmatchCounts", fn := fun _ => fun
  | [d1, d2] => { results := [.lit (.bool true)], args := [d1, d2] }
  | _ => none }
def lexmatchCountsRow : OpenClaim := { program := "ytmcggompdmngmaagreatdoor", sum := "68a4584f91c212fc7da3a4ba0f1cbaea1dc2cc7ad9a95c28da551530fb19b7d4", func := "corpora/corporalaw21.LexmatchCounts", spec := "lexmatchCounts", inPlace := ["internal/bytealg.abigen_runtime_cmpstring", "internal/bytealg.IndexByteString", "internal/bytealg.IndexString"], unfollowed := true, recurses := true, named := ["unicode/utf8.first", "unicode/utf8.acceptRanges", "internal/bytealg.MaxLen"], plainKeys := false, apart := false, laid := [("unicode/utf8.acceptRanges", laid_unicode_utf8_acceptRanges), ("unicode/utf8.first", laid_unicode_utf8_first)] }
def LexmatchCountsSaid : Prop := lexmatchCountsRow.holds Tryz.pinned (OpenSpec.ofChange lexmatchCountsSpec)

/-- ITS FALSE NEIGHBOUR: 'it returns false'. Refute it at one input. -/
def lexmatchCountsWrong : ChangeSpec := { name := "lexmatchCounts", fn := fun _ => fun
  | [d1, d2] => { results := [.lit (.bool false)], args := [d1, d2] }
  | _ => none }
def LexmatchCountsWrongFalsely : Prop := lexmatchCountsRow.holds Tryz.pinned (OpenSpec.ofChange lexmatchCountsWrong)

/-- 'corporalaw21.LexmatchPrefixes': WHATEVER THE INPUT: true; the input reads as it did. -/
def lexmatchPrefixesSpec : ChangeSpec := { name := "lexmatchPrefixes", fn := fun _ => fun
  | [d1, d2] => { results := [.lit (.bool true)], args := [d1, d2] }
  | _ => none }
def lexmatchPrefixesRow : OpenClaim := { program := "ytmcggompdmngmaagreatdoor", sum := "68a4584f91c212fc7da3a4ba0f1cbaea1dc2cc7ad9a95c28da551530fb19b7d4", func := "corpora/corporalaw21.LexmatchPrefixes", spec := "lexmatchPrefixes", inPlace := ["internal/bytealg.abigen_runtime_cmpstring", "internal/bytealg.IndexByteString", "internal/bytealg.IndexString"], unfollowed := true, recurses := true, named := ["unicode/utf8.first", "unicode/utf8.acceptRanges", "internal/bytealg.MaxLen"], plainKeys := false, apart := false, laid := [("unicode/utf8.acceptRanges", laid_unicode_utf8_acceptRanges), ("unicode/utf8.first", laid_unicode_utf8_first)] }
def LexmatchPrefixesSaid : Prop := lexmatchPrefixesRow.holds Tryz.pinned (OpenSpec.ofChange lexmatchPrefixesSpec)

/-- ITS FALSE NEIGHBOUR: 'it returns false'. Refute it at one input. -/
def lexmatchPrefixesWrong : ChangeSpec := { name := "lexmatchPrefixes", fn := fun _ => fun
  | [d1, d2] => { results := [.lit (.bool false)], args := [d1, d2] }
  | _ => none }
def LexmatchPrefixesWrongFalsely : Prop := lexmatchPrefixesRow.holds Tryz.pinned (OpenSpec.ofChange lexmatchPrefixesWrong)

/-- 'corporalaw21.LexmatchAgrees': WHATEVER THE INPUT: true; the input reads as it did. -/
def lexmatchAgreesSpec : ChangeSpec := { name := "lexmatchAgrees", fn := fun _ => fun
  | [d1, d2] => { results := [.lit (.bool true)], args := [d1, d2] }
  | _ => none }
def lexmatchAgreesRow : OpenClaim := { program := "ytmcggompdmngmaagreatdoor", sum := "68a4584f91c212fc7da3a4ba0f1cbaea1dc2cc7ad9a95c28da551530fb19b7d4", func := "corpora/corporalaw21.LexmatchAgrees", spec := "lexmatchAgrees", inPlace := ["internal/bytealg.abigen_runtime_cmpstring", "internal/bytealg.IndexByteString", "internal/bytealg.IndexString"], unfollowed := true, recurses := true, named := ["unicode/utf8.first", "unicode/utf8.acceptRanges", "internal/bytealg.MaxLen"], loops := true, plainKeys := false, apart := false, laid := [("unicode/utf8.acceptRanges", laid_unicode_utf8_acceptRanges), ("unicode/utf8.first", laid_unicode_utf8_first)] }
def LexmatchAgreesSaid : Prop := lexmatchAgreesRow.holds Tryz.pinned (OpenSpec.ofChange lexmatchAgreesSpec)

/-- ITS FALSE NEIGHBOUR: 'it returns false'. Refute it at one input. -/
def lexmatchAgreesWrong : ChangeSpec := { name := "lexmatchAgrees", fn := fun _ => fun
  | [d1, d2] => { results := [.lit (.bool false)], args := [d1, d2] }
  | _ => none }
def LexmatchAgreesWrongFalsely : Prop := lexmatchAgreesRow.holds Tryz.pinned (OpenSpec.ofChange lexmatchAgreesWrong)

/-- 'corporalaw21.LexmatchBoolean': WHATEVER THE INPUT: true; the input reads as it did. -/
def lexmatchBooleanSpec : ChangeSpec := { name := "lexmatchBoolean", fn := fun _ => fun
  | [d1, d2, d3] => { results := [.lit (.bool true)], args := [d1, d2, d3] }
  | _ => none }
def lexmatchBooleanRow : OpenClaim := { program := "ytmcggompdmngmaagreatdoor", sum := "68a4584f91c212fc7da3a4ba0f1cbaea1dc2cc7ad9a95c28da551530fb19b7d4", func := "corpora/corporalaw21.LexmatchBoolean", spec := "lexmatchBoolean", inPlace := ["internal/bytealg.abigen_runtime_cmpstring", "internal/bytealg.IndexByteString", "internal/bytealg.IndexString"], unfollowed := true, recurses := true, named := ["unicode/utf8.first", "unicode/utf8.acceptRanges", "internal/bytealg.MaxLen"], plainKeys := false, apart := false, laid := [("unicode/utf8.acceptRanges", laid_unicode_utf8_acceptRanges), ("unicode/utf8.first", laid_unicode_utf8_first)] }
def LexmatchBooleanSaid : Prop := lexmatchBooleanRow.holds Tryz.pinned (OpenSpec.ofChange lexmatchBooleanSpec)

/-- ITS FALSE NEIGHBOUR: 'it returns false'. Refute it at one input. -/
def lexmatchBooleanWrong : ChangeSpec := { name := "lexmatchBoolean", fn := fun _ => fun
  | [d1, d2, d3] => { results := [.lit (.bool false)], args := [d1, d2, d3] }
  | _ => none }
def LexmatchBooleanWrongFalsely : Prop := lexmatchBooleanRow.holds Tryz.pinned (OpenSpec.ofChange lexmatchBooleanWrong)

/- THE SECOND FORM. 'bulk': how many values and letters a reading holds, each counted each time it is reached (what is shared counts as often as it is met; a slice's spare places count too). A statement '..UptoSaid' is the law's where the arguments, and the package variables that the reading takes, are together of bulk at most 1048576: NARROWER than '..Said'. Prove '..Said' where nothing that the law and all that it calls make is longer than what came in: it says more and counts as full. Else prove '..UptoSaid'. A law counts once. -/
mutual
def uptoBulk {H : Type} : DataW H → Nat
  | .lit (.string bytes) => bytes.length + 1
  | .lit _ => 1
  | .nil => 1
  | .ptr d => uptoBulk d + 1
  | .slice elems spare => uptoBulkAll elems + uptoBulkAll spare + 1
  | .agg parts => uptoBulkAll parts + 1
  | .iface _ d => uptoBulk d + 1
  | .map entries => uptoBulkEntries entries + 1
  | .held _ => 1
def uptoBulkAll {H : Type} : List (DataW H) → Nat
  | [] => 0
  | d :: r => uptoBulk d + uptoBulkAll r
def uptoBulkEntries {H : Type} : List (Lit × DataW H) → Nat
  | [] => 0
  | x :: r => uptoBulkEntry x + uptoBulkEntries r
def uptoBulkEntry {H : Type} : Lit × DataW H → Nat
  | (.string bytes, d) => bytes.length + uptoBulk d + 1
  | (_, d) => uptoBulk d + 1
 end
def uptoSmall : (H : Type) → List (DataW H) → Bool := fun _ ds => decide (uptoBulkAll ds ≤ 1048576)
def OpenSpec.upto (s : _root_.Go.ChangeSpec) : _root_.Go.OpenSpec := { _root_.Go.OpenSpec.ofChange s with cond := some uptoSmall }

/-- 'corporalaw21.LexmatchSelects', WHERE WHAT IT READS IS OF BULK AT MOST 1048576: true; the input reads as it did. -/
def lexmatchSelectsUptoRow : OpenClaim := { program := "ytmcggompdmngmaagreatdoor", sum := "68a4584f91c212fc7da3a4ba0f1cbaea1dc2cc7ad9a95c28da551530fb19b7d4", func := "corpora/corporalaw21.LexmatchSelects", spec := "lexmatchSelects", inPlace := ["internal/bytealg.abigen_runtime_cmpstring", "internal/bytealg.IndexByteString", "internal/bytealg.IndexString"], unfollowed := true, recurses := true, named := ["unicode/utf8.first", "unicode/utf8.acceptRanges", "internal/bytealg.MaxLen"], plainKeys := false, apart := false, laid := [("unicode/utf8.acceptRanges", laid_unicode_utf8_acceptRanges), ("unicode/utf8.first", laid_unicode_utf8_first)], narrowed := true }
def LexmatchSelectsUptoSaid : Prop := lexmatchSelectsUptoRow.holds Tryz.pinned (OpenSpec.upto lexmatchSelectsSpec)

/-- 'corporalaw21.LexmatchVisits', WHERE WHAT IT READS IS OF BULK AT MOST 1048576: true; the input reads as it did. -/
def lexmatchVisitsUptoRow : OpenClaim := { program := "ytmcggompdmngmaagreatdoor", sum := "68a4584f91c212fc7da3a4ba0f1cbaea1dc2cc7ad9a95c28da551530fb19b7d4", func := "corpora/corporalaw21.LexmatchVisits", spec := "lexmatchVisits", inPlace := ["internal/bytealg.abigen_runtime_cmpstring", "internal/bytealg.IndexByteString", "internal/bytealg.IndexString"], unfollowed := true, recurses := true, named := ["unicode/utf8.first", "unicode/utf8.acceptRanges", "internal/bytealg.MaxLen"], plainKeys := false, apart := false, laid := [("unicode/utf8.acceptRanges", laid_unicode_utf8_acceptRanges), ("unicode/utf8.first", laid_unicode_utf8_first)], narrowed := true }
def LexmatchVisitsUptoSaid : Prop := lexmatchVisitsUptoRow.holds Tryz.pinned (OpenSpec.upto lexmatchVisitsSpec)

/-- 'corporalaw21.LexmatchLarge', WHERE WHAT IT READS IS OF BULK AT MOST 1048576: true; the input reads as it did. -/
def lexmatchLargeUptoRow : OpenClaim := { program := "ytmcggompdmngmaagreatdoor", sum := "68a4584f91c212fc7da3a4ba0f1cbaea1dc2cc7ad9a95c28da551530fb19b7d4", func := "corpora/corporalaw21.LexmatchLarge", spec := "lexmatchLarge", inPlace := ["internal/bytealg.abigen_runtime_cmpstring", "internal/bytealg.IndexByteString", "internal/bytealg.IndexString"], unfollowed := true, recurses := true, named := ["unicode/utf8.first", "unicode/utf8.acceptRanges", "internal/bytealg.MaxLen"], plainKeys := false, apart := false, laid := [("unicode/utf8.acceptRanges", laid_unicode_utf8_acceptRanges), ("unicode/utf8.first", laid_unicode_utf8_first)], narrowed := true }
def LexmatchLargeUptoSaid : Prop := lexmatchLargeUptoRow.holds Tryz.pinned (OpenSpec.upto lexmatchLargeSpec)

/-- 'corporalaw21.LexmatchRanges', WHERE WHAT IT READS IS OF BULK AT MOST 1048576: true; the input reads as it did. -/
def lexmatchRangesUptoRow : OpenClaim := { program := "ytmcggompdmngmaagreatdoor", sum := "68a4584f91c212fc7da3a4ba0f1cbaea1dc2cc7ad9a95c28da551530fb19b7d4", func := "corpora/corporalaw21.LexmatchRanges", spec := "lexmatchRanges", inPlace := ["internal/bytealg.abigen_runtime_cmpstring", "internal/bytealg.IndexByteString", "internal/bytealg.IndexString"], unfollowed := true, recurses := true, named := ["unicode/utf8.first", "unicode/utf8.acceptRanges", "internal/bytealg.MaxLen"], plainKeys := false, apart := false, laid := [("unicode/utf8.acceptRanges", laid_unicode_utf8_acceptRanges), ("unicode/utf8.first", laid_unicode_utf8_first)], narrowed := true }
def LexmatchRangesUptoSaid : Prop := lexmatchRangesUptoRow.holds Tryz.pinned (OpenSpec.upto lexmatchRangesSpec)

/-- 'corporalaw21.LexmatchCounts', WHERE WHAT IT READS IS OF BULK AT MOST 1048576: true; the input reads as it did. -/
def lexmatchCountsUptoRow : OpenClaim := { program := "ytmcggompdmngmaagreatdoor", sum := "68a4584f91c212fc7da3a4ba0f1cbaea1dc2cc7ad9a95c28da551530fb19b7d4", func := "corpora/corporalaw21.LexmatchCounts", spec := "lexmatchCounts", inPlace := ["internal/bytealg.abigen_runtime_cmpstring", "internal/bytealg.IndexByteString", "internal/bytealg.IndexString"], unfollowed := true, recurses := true, named := ["unicode/utf8.first", "unicode/utf8.acceptRanges", "internal/bytealg.MaxLen"], plainKeys := false, apart := false, laid := [("unicode/utf8.acceptRanges", laid_unicode_utf8_acceptRanges), ("unicode/utf8.first", laid_unicode_utf8_first)], narrowed := true }
def LexmatchCountsUptoSaid : Prop := lexmatchCountsUptoRow.holds Tryz.pinned (OpenSpec.upto lexmatchCountsSpec)

/-- 'corporalaw21.LexmatchPrefixes', WHERE WHAT IT READS IS OF BULK AT MOST 1048576: true; the input reads as it did. -/
def lexmatchPrefixesUptoRow : OpenClaim := { program := "ytmcggompdmngmaagreatdoor", sum := "68a4584f91c212fc7da3a4ba0f1cbaea1dc2cc7ad9a95c28da551530fb19b7d4", func := "corpora/corporalaw21.LexmatchPrefixes", spec := "lexmatchPrefixes", inPlace := ["internal/bytealg.abigen_runtime_cmpstring", "internal/bytealg.IndexByteString", "internal/bytealg.IndexString"], unfollowed := true, recurses := true, named := ["unicode/utf8.first", "unicode/utf8.acceptRanges", "internal/bytealg.MaxLen"], plainKeys := false, apart := false, laid := [("unicode/utf8.acceptRanges", laid_unicode_utf8_acceptRanges), ("unicode/utf8.first", laid_unicode_utf8_first)], narrowed := true }
def LexmatchPrefixesUptoSaid : Prop := lexmatchPrefixesUptoRow.holds Tryz.pinned (OpenSpec.upto lexmatchPrefixesSpec)

/-- 'corporalaw21.LexmatchAgrees', WHERE WHAT IT READS IS OF BULK AT MOST 1048576: true; the input reads as it did. -/
def lexmatchAgreesUptoRow : OpenClaim := { program := "ytmcggompdmngmaagreatdoor", sum := "68a4584f91c212fc7da3a4ba0f1cbaea1dc2cc7ad9a95c28da551530fb19b7d4", func := "corpora/corporalaw21.LexmatchAgrees", spec := "lexmatchAgrees", inPlace := ["internal/bytealg.abigen_runtime_cmpstring", "internal/bytealg.IndexByteString", "internal/bytealg.IndexString"], unfollowed := true, recurses := true, named := ["unicode/utf8.first", "unicode/utf8.acceptRanges", "internal/bytealg.MaxLen"], loops := true, plainKeys := false, apart := false, laid := [("unicode/utf8.acceptRanges", laid_unicode_utf8_acceptRanges), ("unicode/utf8.first", laid_unicode_utf8_first)], narrowed := true }
def LexmatchAgreesUptoSaid : Prop := lexmatchAgreesUptoRow.holds Tryz.pinned (OpenSpec.upto lexmatchAgreesSpec)

/-- 'corporalaw21.LexmatchBoolean', WHERE WHAT IT READS IS OF BULK AT MOST 1048576: true; the input reads as it did. -/
def lexmatchBooleanUptoRow : OpenClaim := { program := "ytmcggompdmngmaagreatdoor", sum := "68a4584f91c212fc7da3a4ba0f1cbaea1dc2cc7ad9a95c28da551530fb19b7d4", func := "corpora/corporalaw21.LexmatchBoolean", spec := "lexmatchBoolean", inPlace := ["internal/bytealg.abigen_runtime_cmpstring", "internal/bytealg.IndexByteString", "internal/bytealg.IndexString"], unfollowed := true, recurses := true, named := ["unicode/utf8.first", "unicode/utf8.acceptRanges", "internal/bytealg.MaxLen"], plainKeys := false, apart := false, laid := [("unicode/utf8.acceptRanges", laid_unicode_utf8_acceptRanges), ("unicode/utf8.first", laid_unicode_utf8_first)], narrowed := true }
def LexmatchBooleanUptoSaid : Prop := lexmatchBooleanUptoRow.holds Tryz.pinned (OpenSpec.upto lexmatchBooleanSpec)

end Rows
end Go.Proofs.YtmcggompdmngmaaGreatDoor
