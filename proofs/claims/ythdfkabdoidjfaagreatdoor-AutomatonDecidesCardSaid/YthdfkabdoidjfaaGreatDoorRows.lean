/-
  NARROWER THAN 'FOR EVERY INPUT', by the rows' own cells (each row's printed sentence says how): AutomatonValidates: laid · AutomatonRuns: laid · AutomatonMinimizes: laid · AutomatonProducts: laid · AutomatonComplements: laid · AutomatonKeeps: laid · AutomatonBoolean: laid · AutomatonForms: loops, laid · AutomatonMorgan: laid · AutomatonMeans: loops, laid · AutomatonShortest: laid · AutomatonDecides: laid.
  DERIVED. THE GIVEN ROWS OF THIS SEAT. 12 by the template 'for every input the law returns true; each argument reads behind the call as it read before'; 0 by the template 'total and deterministic' (their statements: YthdfkabdoidjfaaGreatDoorTotals.lean).
  GIVEN WITH THE SEED: the statements are not yours to turn. If you find one false, say at which input.
  Laid BY PROGRAM, IN A SANDBOX (cutbox-rows.mjs): the forced cells as the released guide's own fill.sh prints them over the translation 2f2417cd202f8999… (all of the seat's roots in one cut). By AI agents, Wed Nov 11 2026. No macro, syntax, notation, axiom, sorry.
-/
import Derived.Test.YthdfkabdoidjfaaGreatDoorChecked
import GoSem.PinnedTables
import GoSem.Claim
import GoSem.ClaimJoined
import GoSem.ClaimMapViews
import Derived.JoinedTies
import Derived.KernelRfl
namespace Go.Proofs.YthdfkabdoidjfaaGreatDoor
/- THE CELL 'sum', in the pinned program and in every row, IS THE sha256 OF THE DUMP (.gsa) THAT YthdfkabdoidjfaaGreatDoorProg.lean LOADS. Nothing in Lean hashes anything: it is a label: what it is worth is what the hold of that sum in a sandbox is worth. -/
noncomputable def Tryz.pinned : Pinned := { name := "ythdfkabdoidjfaagreatdoor", sum := "2f2417cd202f899938dd912ebaf6c339110efe330e5964f617e6f3d4050f929e", checked := Tryz.checked }
namespace Rows
def none {H : Type} : Left H := { results := [], args := [] }

/- WHAT THE LISTED PACKAGE-LEVEL VARIABLES READ AS WHEN THE CALL BEGINS. Each datum BY PROGRAM (the guide's laid-datum.mjs) off the statement by which the dump's own 'gosem.cut.vars' lays the variable. In a bare row this is a premise. The card (YthdfkabdoidjfaaGreatDoorCards.lean) ties it to the program's text. -/
def laid_unicode_utf8_acceptRanges {H : Type} : DataW H := .agg [.agg [.lit (.int .u8 128), .lit (.int .u8 191)], .agg [.lit (.int .u8 160), .lit (.int .u8 191)], .agg [.lit (.int .u8 128), .lit (.int .u8 159)], .agg [.lit (.int .u8 144), .lit (.int .u8 191)], .agg [.lit (.int .u8 128), .lit (.int .u8 143)], .agg [.lit (.int .u8 0), .lit (.int .u8 0)], .agg [.lit (.int .u8 0), .lit (.int .u8 0)], .agg [.lit (.int .u8 0), .lit (.int .u8 0)], .agg [.lit (.int .u8 0), .lit (.int .u8 0)], .agg [.lit (.int .u8 0), .lit (.int .u8 0)], .agg [.lit (.int .u8 0), .lit (.int .u8 0)], .agg [.lit (.int .u8 0), .lit (.int .u8 0)], .agg [.lit (.int .u8 0), .lit (.int .u8 0)], .agg [.lit (.int .u8 0), .lit (.int .u8 0)], .agg [.lit (.int .u8 0), .lit (.int .u8 0)], .agg [.lit (.int .u8 0), .lit (.int .u8 0)]]
/-- One of Go's own tables, pinned by name: the form's constant. -/
def laid_unicode_utf8_first : DataW Unit := Go.Pinned.utf8First

/-- 'corporalaw20.AutomatonValidates': WHATEVER THE INPUT: true; the input reads as it did. -/
def automatonValidatesSpec : ChangeSpec := { name := "automatonValidates", fn := fun _ => fun
  | [d] => { results := [.lit (.bool true)], args := [d] }
  | _ => none }
def automatonValidatesRow : OpenClaim := { program := "ythdfkabdoidjfaagreatdoor", sum := "2f2417cd202f899938dd912ebaf6c339110efe330e5964f617e6f3d4050f929e", func := "corpora/corporalaw20.AutomatonValidates", spec := "automatonValidates", inPlace := ["internal/bytealg.IndexByteString", "internal/bytealg.IndexString"], unfollowed := true, recurses := true, named := ["unicode/utf8.first", "unicode/utf8.acceptRanges", "internal/bytealg.MaxLen"], plainKeys := false, apart := false, laid := [("unicode/utf8.acceptRanges", laid_unicode_utf8_acceptRanges), ("unicode/utf8.first", laid_unicode_utf8_first)] }
def AutomatonValidatesSaid : Prop := automatonValidatesRow.holds Tryz.pinned (OpenSpec.ofChange automatonValidatesSpec)

/-- ITS FALSE NEIGHBOUR: 'it returns false'. Refute it at one input. -/
def automatonValidatesWrong : ChangeSpec := { name := "automatonValidates", fn := fun _ => fun
  | [d] => { results := [.lit (.bool false)], args := [d] }
  | _ => none }
def AutomatonValidatesWrongFalsely : Prop := automatonValidatesRow.holds Tryz.pinned (OpenSpec.ofChange automatonValidatesWrong)

/-- 'corporalaw20.AutomatonRuns': WHATEVER THE INPUT: true; the input reads as it did. -/
def automatonRunsSpec : ChangeSpec := { name := "automatonRuns", fn := fun _ => fun
  | [d1, d2] => { results := [.lit (.bool true)], args := [d1, d2] }
  | _ => none }
def automatonRunsRow : OpenClaim := { program := "ythdfkabdoidjfaagreatdoor", sum := "2f2417cd202f899938dd912ebaf6c339110efe330e5964f617e6f3d4050f929e", func := "corpora/corporalaw20.AutomatonRuns", spec := "automatonRuns", inPlace := ["internal/bytealg.IndexByteString", "internal/bytealg.IndexString"], unfollowed := true, recurses := true, named := ["unicode/utf8.first", "unicode/utf8.acceptRanges", "internal/bytealg.MaxLen"], plainKeys := false, apart := false, laid := [("unicode/utf8.acceptRanges", laid_unicode_utf8_acceptRanges), ("unicode/utf8.first", laid_unicode_utf8_first)] }
def AutomatonRunsSaid : Prop := automatonRunsRow.holds Tryz.pinned (OpenSpec.ofChange automatonRunsSpec)

/-- ITS FALSE NEIGHBOUR: 'it returns false'. Refute it at one input. -/
def automatonRunsWrong : ChangeSpec := { name := "automatonRuns", fn := fun _ => fun
  | [d1, d2] => { results := [.lit (.bool false)], args := [d1, d2] }
  | _ => none }
def AutomatonRunsWrongFalsely : Prop := automatonRunsRow.holds Tryz.pinned (OpenSpec.ofChange automatonRunsWrong)

/-- 'corporalaw20.AutomatonMinimizes': WHATEVER THE INPUT: true; the input reads as it did. -/
def automatonMinimizesSpec : ChangeSpec := { name := "automatonMinimizes", fn := fun _ => fun
  | [d] => { results := [.lit (.bool true)], args := [d] }
  | _ => none }
def automatonMinimizesRow : OpenClaim := { program := "ythdfkabdoidjfaagreatdoor", sum := "2f2417cd202f899938dd912ebaf6c339110efe330e5964f617e6f3d4050f929e", func := "corpora/corporalaw20.AutomatonMinimizes", spec := "automatonMinimizes", inPlace := ["internal/bytealg.IndexByteString", "internal/bytealg.IndexString"], unfollowed := true, recurses := true, named := ["unicode/utf8.first", "unicode/utf8.acceptRanges", "internal/bytealg.MaxLen"], plainKeys := false, apart := false, laid := [("unicode/utf8.acceptRanges", laid_unicode_utf8_acceptRanges), ("unicode/utf8.first", laid_unicode_utf8_first)] }
def AutomatonMinimizesSaid : Prop := automatonMinimizesRow.holds Tryz.pinned (OpenSpec.ofChange automatonMinimizesSpec)

/-- ITS FALSE NEIGHBOUR: 'it returns false'. Refute it at one input. -/
def automatonMinimizesWrong : ChangeSpec := { name := "automatonMinimizes", fn := fun _ => fun
  | [d] => { results := [.lit (.bool false)], args := [d] }
  | _ => none }
def AutomatonMinimizesWrongFalsely : Prop := automatonMinimizesRow.holds Tryz.pinned (OpenSpec.ofChange automatonMinimizesWrong)

/-- 'corporalaw20.AutomatonProducts': WHATEVER THE INPUT: true; the input reads as it did. -/
def automatonProductsSpec : ChangeSpec := { name := "automatonProducts", fn := fun _ => fun
  | [d1, d2, d3] => { results := [.lit (.bool true)], args := [d1, d2, d3] }
  | _ => none }
def automatonProductsRow : OpenClaim := { program := "ythdfkabdoidjfaagreatdoor", sum := "2f2417cd202f899938dd912ebaf6c339110efe330e5964f617e6f3d4050f929e", func := "corpora/corporalaw20.AutomatonProducts", spec := "automatonProducts", inPlace := ["internal/bytealg.IndexByteString", "internal/bytealg.IndexString"], unfollowed := true, recurses := true, named := ["unicode/utf8.first", "unicode/utf8.acceptRanges", "internal/bytealg.MaxLen"], plainKeys := false, apart := false, laid := [("unicode/utf8.acceptRanges", laid_unicode_utf8_acceptRanges), ("unicode/utf8.first", laid_unicode_utf8_first)] }
def AutomatonProductsSaid : Prop := automatonProductsRow.holds Tryz.pinned (OpenSpec.ofChange automatonProductsSpec)

/-- ITS FALSE NEIGHBOUR: 'it returns false'. Refute it at one input. -/
def automatonProductsWrong : ChangeSpec := { name := "automatonProducts", fn := fun _ => fun
  | [d1, d2, d3] => { results := [.lit (.bool false)], args := [d1, d2, d3] }
  | _ => none }
def AutomatonProductsWrongFalsely : Prop := automatonProductsRow.holds Tryz.pinned (OpenSpec.ofChange automatonProductsWrong)

/-- 'corporalaw20.AutomatonComplements': WHATEVER THE INPUT: true; the input reads as it did. -/
def automatonComplementsSpec : ChangeSpec := { name := "automatonComplements", fn := fun _ => fun
  | [d] => { results := [.lit (.bool true)], args := [d] }
  | _ => none }
def automatonComplementsRow : OpenClaim := { program := "ythdfkabdoidjfaagreatdoor", sum := "2f2417cd202f899938dd912ebaf6c339110efe330e5964f617e6f3d4050f929e", func := "corpora/corporalaw20.AutomatonComplements", spec := "automatonComplements", inPlace := ["internal/bytealg.IndexByteString", "internal/bytealg.IndexString"], unfollowed := true, recurses := true, named := ["unicode/utf8.first", "unicode/utf8.acceptRanges", "internal/bytealg.MaxLen"], plainKeys := false, apart := false, laid := [("unicode/utf8.acceptRanges", laid_unicode_utf8_acceptRanges), ("unicode/utf8.first", laid_unicode_utf8_first)] }
def AutomatonComplementsSaid : Prop := automatonComplementsRow.holds Tryz.pinned (OpenSpec.ofChange automatonComplementsSpec)

/-- ITS FALSE NEIGHBOUR: 'it returns false'. Refute it at one input. -/
def automatonComplementsWrong : ChangeSpec := { name := "automatonComplements", fn := fun _ => fun
  | [d] => { results := [.lit (.bool false)], args := [d] }
  | _ => none }
def AutomatonComplementsWrongFalsely : Prop := automatonComplementsRow.holds Tryz.pinned (OpenSpec.ofChange automatonComplementsWrong)

/-- 'corporalaw20.AutomatonKeeps': WHATEVER THE INPUT: true; the input reads as it did. -/
def automatonKeepsSpec : ChangeSpec := { name := "automatonKeeps", fn := fun _ => fun
  | [d1, d2] => { results := [.lit (.bool true)], args := [d1, d2] }
  | _ => none }
def automatonKeepsRow : OpenClaim := { program := "ythdfkabdoidjfaagreatdoor", sum := "2f2417cd202f899938dd912ebaf6c339110efe330e5964f617e6f3d4050f929e", func := "corpora/corporalaw20.AutomatonKeeps", spec := "automatonKeeps", inPlace := ["internal/bytealg.IndexByteString", "internal/bytealg.IndexString"], unfollowed := true, recurses := true, named := ["unicode/utf8.first", "unicode/utf8.acceptRanges", "internal/bytealg.MaxLen"], plainKeys := false, apart := false, laid := [("unicode/utf8.acceptRanges", laid_unicode_utf8_acceptRanges), ("unicode/utf8.first", laid_unicode_utf8_first)] }
def AutomatonKeepsSaid : Prop := automatonKeepsRow.holds Tryz.pinned (OpenSpec.ofChange automatonKeepsSpec)

/-- ITS FALSE NEIGHBOUR: 'it returns false'. Refute it at one input. -/
def automatonKeepsWrong : ChangeSpec := { name := "automatonKeeps", fn := fun _ => fun
  | [d1, d2] => { results := [.lit (.bool false)], args := [d1, d2] }
  | _ => none }
def AutomatonKeepsWrongFalsely : Prop := automatonKeepsRow.holds Tryz.pinned (OpenSpec.ofChange automatonKeepsWrong)

/-- 'corporalaw20.AutomatonBoolean': WHATEVER THE INPUT: true; the input reads as it did. -/
def automatonBooleanSpec : ChangeSpec := { name := "automatonBoolean", fn := fun _ => fun
  | [d1, d2, d3] => { results := [.lit (.bool true)], args := [d1, d2, d3] }
  | _ => none }
def automatonBooleanRow : OpenClaim := { program := "ythdfkabdoidjfaagreatdoor", sum := "2f2417cd202f899938dd912ebaf6c339110efe330e5964f617e6f3d4050f929e", func := "corpora/corporalaw20.AutomatonBoolean", spec := "automatonBoolean", inPlace := ["internal/bytealg.IndexByteString", "internal/bytealg.IndexString"], unfollowed := true, recurses := true, named := ["unicode/utf8.first", "unicode/utf8.acceptRanges", "internal/bytealg.MaxLen"], plainKeys := false, apart := false, laid := [("unicode/utf8.acceptRanges", laid_unicode_utf8_acceptRanges), ("unicode/utf8.first", laid_unicode_utf8_first)] }
def AutomatonBooleanSaid : Prop := automatonBooleanRow.holds Tryz.pinned (OpenSpec.ofChange automatonBooleanSpec)

/-- ITS FALSE NEIGHBOUR: 'it returns false'. Refute it at one input. -/
def automatonBooleanWrong : ChangeSpec := { name := "automatonBoolean", fn := fun _ => fun
  | [d1, d2, d3] => { results := [.lit (.bool false)], args := [d1, d2, d3] }
  | _ => none }
def AutomatonBooleanWrongFalsely : Prop := automatonBooleanRow.holds Tryz.pinned (OpenSpec.ofChange automatonBooleanWrong)

/-- 'corporalaw20.AutomatonForms': WHATEVER THE INPUT: true; the input reads as it did. -/
def automatonFormsSpec : ChangeSpec := { name := "automatonForms", fn := fun _ => fun
  | [d1, d2] => { results := [.lit (.bool true)], args := [d1, d2] }
  | _ => none }
def automatonFormsRow : OpenClaim := { program := "ythdfkabdoidjfaagreatdoor", sum := "2f2417cd202f899938dd912ebaf6c339110efe330e5964f617e6f3d4050f929e", func := "corpora/corporalaw20.AutomatonForms", spec := "automatonForms", inPlace := ["internal/bytealg.IndexByteString", "internal/bytealg.IndexString"], unfollowed := true, recurses := true, named := ["unicode/utf8.first", "unicode/utf8.acceptRanges", "internal/bytealg.MaxLen"], loops := true, plainKeys := false, apart := false, laid := [("unicode/utf8.acceptRanges", laid_unicode_utf8_acceptRanges), ("unicode/utf8.first", laid_unicode_utf8_first)] }
def AutomatonFormsSaid : Prop := automatonFormsRow.holds Tryz.pinned (OpenSpec.ofChange automatonFormsSpec)

/-- ITS FALSE NEIGHBOUR: 'it returns false'. Refute it at one input. -/
def automatonFormsWrong : ChangeSpec := { name := "automatonForms", fn := fun _ => fun
  | [d1, d2] => { results := [.lit (.bool false)], args := [d1, d2] }
  | _ => none }
def AutomatonFormsWrongFalsely : Prop := automatonFormsRow.holds Tryz.pinned (OpenSpec.ofChange automatonFormsWrong)

/-- 'corporalaw20.AutomatonMorgan': WHATEVER THE INPUT: true; the input reads as it did. -/
def automatonMorganSpec : ChangeSpec := { name := "automatonMorgan", fn := fun _ => fun
  | [d1, d2] => { results := [.lit (.bool true)], args := [d1, d2] }
  | _ => none }
def automatonMorganRow : OpenClaim := { program := "ythdfkabdoidjfaagreatdoor", sum := "2f2417cd202f899938dd912ebaf6c339110efe330e5964f617e6f3d4050f929e", func := "corpora/corporalaw20.AutomatonMorgan", spec := "automatonMorgan", inPlace := ["internal/bytealg.IndexByteString", "internal/bytealg.IndexString"], unfollowed := true, recurses := true, named := ["unicode/utf8.first", "unicode/utf8.acceptRanges", "internal/bytealg.MaxLen"], plainKeys := false, apart := false, laid := [("unicode/utf8.acceptRanges", laid_unicode_utf8_acceptRanges), ("unicode/utf8.first", laid_unicode_utf8_first)] }
def AutomatonMorganSaid : Prop := automatonMorganRow.holds Tryz.pinned (OpenSpec.ofChange automatonMorganSpec)

/-- ITS FALSE NEIGHBOUR: 'it returns false'. Refute it at one input. -/
def automatonMorganWrong : ChangeSpec := { name := "automatonMorgan", fn := fun _ => fun
  | [d1, d2] => { results := [.lit (.bool false)], args := [d1, d2] }
  | _ => none }
def AutomatonMorganWrongFalsely : Prop := automatonMorganRow.holds Tryz.pinned (OpenSpec.ofChange automatonMorganWrong)

/-- 'corporalaw20.AutomatonMeans': WHATEVER THE INPUT: true; the input reads as it did. -/
def automatonMeansSpec : ChangeSpec := { name := "automatonMeans", fn := fun _ => fun
  | [d1, d2] => { results := [.lit (.bool true)], args := [d1, d2] }
  | _ => none }
def automatonMeansRow : OpenClaim := { program := "ythdfkabdoidjfaagreatdoor", sum := "2f2417cd202f899938dd912ebaf6c339110efe330e5964f617e6f3d4050f929e", func := "corpora/corporalaw20.AutomatonMeans", spec := "automatonMeans", inPlace := ["internal/bytealg.IndexByteString", "internal/bytealg.IndexString"], unfollowed := true, recurses := true, named := ["unicode/utf8.first", "unicode/utf8.acceptRanges", "internal/bytealg.MaxLen"], loops := true, plainKeys := false, apart := false, laid := [("unicode/utf8.acceptRanges", laid_unicode_utf8_acceptRanges), ("unicode/utf8.first", laid_unicode_utf8_first)] }
def AutomatonMeansSaid : Prop := automatonMeansRow.holds Tryz.pinned (OpenSpec.ofChange automatonMeansSpec)

/-- ITS FALSE NEIGHBOUR: 'it returns false'. Refute it at one input. -/
def automatonMeansWrong : ChangeSpec := { name := "automatonMeans", fn := fun _ => fun
  | [d1, d2] => { results := [.lit (.bool false)], args := [d1, d2] }
  | _ => none }
def AutomatonMeansWrongFalsely : Prop := automatonMeansRow.holds Tryz.pinned (OpenSpec.ofChange automatonMeansWrong)

/-- 'corporalaw20.AutomatonShortest': WHATEVER THE INPUT: true; the input reads as it did. -/
def automatonShortestSpec : ChangeSpec := { name := "automatonShortest", fn := fun _ => fun
  | [d1, d2] => { results := [.lit (.bool true)], args := [d1, d2] }
  | _ => none }
def automatonShortestRow : OpenClaim := { program := "ythdfkabdoidjfaagreatdoor", sum := "2f2417cd202f899938dd912ebaf6c339110efe330e5964f617e6f3d4050f929e", func := "corpora/corporalaw20.AutomatonShortest", spec := "automatonShortest", inPlace := ["internal/bytealg.IndexByteString", "internal/bytealg.IndexString"], unfollowed := true, recurses := true, named := ["unicode/utf8.first", "unicode/utf8.acceptRanges", "internal/bytealg.MaxLen"], plainKeys := false, apart := false, laid := [("unicode/utf8.acceptRanges", laid_unicode_utf8_acceptRanges), ("unicode/utf8.first", laid_unicode_utf8_first)] }
def AutomatonShortestSaid : Prop := automatonShortestRow.holds Tryz.pinned (OpenSpec.ofChange automatonShortestSpec)

/-- ITS FALSE NEIGHBOUR: 'it returns false'. Refute it at one input. -/
def automatonShortestWrong : ChangeSpec := { name := "automatonShortest", fn := fun _ => fun
  | [d1, d2] => { results := [.lit (.bool false)], args := [d1, d2] }
  | _ => none }
def AutomatonShortestWrongFalsely : Prop := automatonShortestRow.holds Tryz.pinned (OpenSpec.ofChange automatonShortestWrong)

/-- 'corporalaw20.AutomatonDecides': WHATEVER THE INPUT: true; the input reads as it did. -/
def automatonDecidesSpec : ChangeSpec := { name := "automatonDecides", fn := fun _ => fun
  | [d1, d2] => { results := [.lit (.bool true)], args := [d1, d2] }
  | _ => none }
def automatonDecidesRow : OpenClaim := { program := "ythdfkabdoidjfaagreatdoor", sum := "2f2417cd202f899938dd912ebaf6c339110efe330e5964f617e6f3d4050f929e", func := "corpora/corporalaw20.AutomatonDecides", spec := "automatonDecides", inPlace := ["internal/bytealg.IndexByteString", "internal/bytealg.IndexString"], unfollowed := true, recurses := true, named := ["unicode/utf8.first", "unicode/utf8.acceptRanges", "internal/bytealg.MaxLen"], plainKeys := false, apart := false, laid := [("unicode/utf8.acceptRanges", laid_unicode_utf8_acceptRanges), ("unicode/utf8.first", laid_unicode_utf8_first)] }
def AutomatonDecidesSaid : Prop := automatonDecidesRow.holds Tryz.pinned (OpenSpec.ofChange automatonDecidesSpec)

/-- ITS FALSE NEIGHBOUR: 'it returns false'. Refute it at one input. -/
def automatonDecidesWrong : ChangeSpec := { name := "automatonDecides", fn := fun _ => fun
  | [d1, d2] => { results := [.lit (.bool false)], args := [d1, d2] }
  | _ => none }
def AutomatonDecidesWrongFalsely : Prop := automatonDecidesRow.holds Tryz.pinned (OpenSpec.ofChange automatonDecidesWrong)

/- THE SECOND FORM. 'bulk': how many values and letters a reading holds, each counted each time it is reached (what is shared counts as often as it is met; a slice's spare places count too). A statement '..UptoSaid' is the law's where the arguments, and the package variables that the reading takes, are together of bulk at most 1048576: NARROWER than '..Said'. Prove '..Said' where nothing that the law and all that it calls make is longer than what came in: it says more and counts as full. Else prove '..UptoSaid'. A law counts once. -/
mutual
def uptoBulk {H : Type} : DataW H → Nat
  | .lit (.string bytes) => bytes.length + 1
  | .lit _ => 1
  | .nil => 1
  | .ptr d => uptoBulk d + 1
  | .slice elems spare => uptoBulkAll elems + uptoBulkAll spare + 1
  | .agg parts => uptoBulkAll parts + 1
  | .iface _ d => uptoBulk d + 1
  | .map entries => uptoBulkEntries entries + 1
  | .held _ => 1
def uptoBulkAll {H : Type} : List (DataW H) → Nat
  | [] => 0
  | d :: r => uptoBulk d + uptoBulkAll r
def uptoBulkEntries {H : Type} : List (Lit × DataW H) → Nat
  | [] => 0
  | x :: r => uptoBulkEntry x + uptoBulkEntries r
def uptoBulkEntry {H : Type} : Lit × DataW H → Nat
  | (.string bytes, d) => bytes.length + uptoBulk d + 1
  | (_, d) => uptoBulk d + 1
 end
def uptoSmall : (H : Type) → List (DataW H) → Bool := fun _ ds => decide (uptoBulkAll ds ≤ 1048576)
def OpenSpec.upto (s : _root_.Go.ChangeSpec) : _root_.Go.OpenSpec := { _root_.Go.OpenSpec.ofChange s with cond := some uptoSmall }

/-- 'corporalaw20.AutomatonValidates', WHERE WHAT IT READS IS OF BULK AT MOST 1048576: true; the input reads as it did. -/
def automatonValidatesUptoRow : OpenClaim := { program := "ythdfkabdoidjfaagreatdoor", sum := "2f2417cd202f899938dd912ebaf6c339110efe330e5964f617e6f3d4050f929e", func := "corpora/corporalaw20.AutomatonValidates", spec := "automatonValidates", inPlace := ["internal/bytealg.IndexByteString", "internal/bytealg.IndexString"], unfollowed := true, recurses := true, named := ["unicode/utf8.first", "unicode/utf8.acceptRanges", "internal/bytealg.MaxLen"], plainKeys := false, apart := false, laid := [("unicode/utf8.acceptRanges", laid_unicode_utf8_acceptRanges), ("unicode/utf8.first", laid_unicode_utf8_first)], narrowed := true }
def AutomatonValidatesUptoSaid : Prop := automatonValidatesUptoRow.holds Tryz.pinned (OpenSpec.upto automatonValidatesSpec)

/-- 'corporalaw20.AutomatonRuns', WHERE WHAT IT READS IS OF BULK AT MOST 1048576: true; the input reads as it did. -/
def automatonRunsUptoRow : OpenClaim := { program := "ythdfkabdoidjfaagreatdoor", sum := "2f2417cd202f899938dd912ebaf6c339110efe330e5964f617e6f3d4050f929e", func := "corpora/corporalaw20.AutomatonRuns", spec := "automatonRuns", inPlace := ["internal/bytealg.IndexByteString", "internal/bytealg.IndexString"], unfollowed := true, recurses := true, named := ["unicode/utf8.first", "unicode/utf8.acceptRanges", "internal/bytealg.MaxLen"], plainKeys := false, apart := false, laid := [("unicode/utf8.acceptRanges", laid_unicode_utf8_acceptRanges), ("unicode/utf8.first", laid_unicode_utf8_first)], narrowed := true }
def AutomatonRunsUptoSaid : Prop := automatonRunsUptoRow.holds Tryz.pinned (OpenSpec.upto automatonRunsSpec)

/-- 'corporalaw20.AutomatonMinimizes', WHERE WHAT IT READS IS OF BULK AT MOST 1048576: true; the input reads as it did. -/
def automatonMinimizesUptoRow : OpenClaim := { program := "ythdfkabdoidjfaagreatdoor", sum := "2f2417cd202f899938dd912ebaf6c339110efe330e5964f617e6f3d4050f929e", func := "corpora/corporalaw20.AutomatonMinimizes", spec := "automatonMinimizes", inPlace := ["internal/bytealg.IndexByteString", "internal/bytealg.IndexString"], unfollowed := true, recurses := true, named := ["unicode/utf8.first", "unicode/utf8.acceptRanges", "internal/bytealg.MaxLen"], plainKeys := false, apart := false, laid := [("unicode/utf8.acceptRanges", laid_unicode_utf8_acceptRanges), ("unicode/utf8.first", laid_unicode_utf8_first)], narrowed := true }
def AutomatonMinimizesUptoSaid : Prop := automatonMinimizesUptoRow.holds Tryz.pinned (OpenSpec.upto automatonMinimizesSpec)

/-- 'corporalaw20.AutomatonProducts', WHERE WHAT IT READS IS OF BULK AT MOST 1048576: true; the input reads as it did. -/
def automatonProductsUptoRow : OpenClaim := { program := "ythdfkabdoidjfaagreatdoor", sum := "2f2417cd202f899938dd912ebaf6c339110efe330e5964f617e6f3d4050f929e", func := "corpora/corporalaw20.AutomatonProducts", spec := "automatonProducts", inPlace := ["internal/bytealg.IndexByteString", "internal/bytealg.IndexString"], unfollowed := true, recurses := true, named := ["unicode/utf8.first", "unicode/utf8.acceptRanges", "internal/bytealg.MaxLen"], plainKeys := false, apart := false, laid := [("unicode/utf8.acceptRanges", laid_unicode_utf8_acceptRanges), ("unicode/utf8.first", laid_unicode_utf8_first)], narrowed := true }
def AutomatonProductsUptoSaid : Prop := automatonProductsUptoRow.holds Tryz.pinned (OpenSpec.upto automatonProductsSpec)

/-- 'corporalaw20.AutomatonComplements', WHERE WHAT IT READS IS OF BULK AT MOST 1048576: true; the input reads as it did. -/
def automatonComplementsUptoRow : OpenClaim := { program := "ythdfkabdoidjfaagreatdoor", sum := "2f2417cd202f899938dd912ebaf6c339110efe330e5964f617e6f3d4050f929e", func := "corpora/corporalaw20.AutomatonComplements", spec := "automatonComplements", inPlace := ["internal/bytealg.IndexByteString", "internal/bytealg.IndexString"], unfollowed := true, recurses := true, named := ["unicode/utf8.first", "unicode/utf8.acceptRanges", "internal/bytealg.MaxLen"], plainKeys := false, apart := false, laid := [("unicode/utf8.acceptRanges", laid_unicode_utf8_acceptRanges), ("unicode/utf8.first", laid_unicode_utf8_first)], narrowed := true }
def AutomatonComplementsUptoSaid : Prop := automatonComplementsUptoRow.holds Tryz.pinned (OpenSpec.upto automatonComplementsSpec)

/-- 'corporalaw20.AutomatonKeeps', WHERE WHAT IT READS IS OF BULK AT MOST 1048576: true; the input reads as it did. -/
def automatonKeepsUptoRow : OpenClaim := { program := "ythdfkabdoidjfaagreatdoor", sum := "2f2417cd202f899938dd912ebaf6c339110efe330e5964f617e6f3d4050f929e", func := "corpora/corporalaw20.AutomatonKeeps", spec := "automatonKeeps", inPlace := ["internal/bytealg.IndexByteString", "internal/bytealg.IndexString"], unfollowed := true, recurses := true, named := ["unicode/utf8.first", "unicode/utf8.acceptRanges", "internal/bytealg.MaxLen"], plainKeys := false, apart := false, laid := [("unicode/utf8.acceptRanges", laid_unicode_utf8_acceptRanges), ("unicode/utf8.first", laid_unicode_utf8_first)], narrowed := true }
def AutomatonKeepsUptoSaid : Prop := automatonKeepsUptoRow.holds Tryz.pinned (OpenSpec.upto automatonKeepsSpec)

/-- 'corporalaw20.AutomatonBoolean', WHERE WHAT IT READS IS OF BULK AT MOST 1048576: true; the input reads as it did. -/
def automatonBooleanUptoRow : OpenClaim := { program := "ythdfkabdoidjfaagreatdoor", sum := "2f2417cd202f899938dd912ebaf6c339110efe330e5964f617e6f3d4050f929e", func := "corpora/corporalaw20.AutomatonBoolean", spec := "automatonBoolean", inPlace := ["internal/bytealg.IndexByteString", "internal/bytealg.IndexString"], unfollowed := true, recurses := true, named := ["unicode/utf8.first", "unicode/utf8.acceptRanges", "internal/bytealg.MaxLen"], plainKeys := false, apart := false, laid := [("unicode/utf8.acceptRanges", laid_unicode_utf8_acceptRanges), ("unicode/utf8.first", laid_unicode_utf8_first)], narrowed := true }
def AutomatonBooleanUptoSaid : Prop := automatonBooleanUptoRow.holds Tryz.pinned (OpenSpec.upto automatonBooleanSpec)

/-- 'corporalaw20.AutomatonForms', WHERE WHAT IT READS IS OF BULK AT MOST 1048576: true; the input reads as it did. -/
def automatonFormsUptoRow : OpenClaim := { program := "ythdfkabdoidjfaagreatdoor", sum := "2f2417cd202f899938dd912ebaf6c339110efe330e5964f617e6f3d4050f929e", func := "corpora/corporalaw20.AutomatonForms", spec := "automatonForms", inPlace := ["internal/bytealg.IndexByteString", "internal/bytealg.IndexString"], unfollowed := true, recurses := true, named := ["unicode/utf8.first", "unicode/utf8.acceptRanges", "internal/bytealg.MaxLen"], loops := true, plainKeys := false, apart := false, laid := [("unicode/utf8.acceptRanges", laid_unicode_utf8_acceptRanges), ("unicode/utf8.first", laid_unicode_utf8_first)], narrowed := true }
def AutomatonFormsUptoSaid : Prop := automatonFormsUptoRow.holds Tryz.pinned (OpenSpec.upto automatonFormsSpec)

/-- 'corporalaw20.AutomatonMorgan', WHERE WHAT IT READS IS OF BULK AT MOST 1048576: true; the input reads as it did. -/
def automatonMorganUptoRow : OpenClaim := { program := "ythdfkabdoidjfaagreatdoor", sum := "2f2417cd202f899938dd912ebaf6c339110efe330e5964f617e6f3d4050f929e", func := "corpora/corporalaw20.AutomatonMorgan", spec := "automatonMorgan", inPlace := ["internal/bytealg.IndexByteString", "internal/bytealg.IndexString"], unfollowed := true, recurses := true, named := ["unicode/utf8.first", "unicode/utf8.acceptRanges", "internal/bytealg.MaxLen"], plainKeys := false, apart := false, laid := [("unicode/utf8.acceptRanges", laid_unicode_utf8_acceptRanges), ("unicode/utf8.first", laid_unicode_utf8_first)], narrowed := true }
def AutomatonMorganUptoSaid : Prop := automatonMorganUptoRow.holds Tryz.pinned (OpenSpec.upto automatonMorganSpec)

/-- 'corporalaw20.AutomatonMeans', WHERE WHAT IT READS IS OF BULK AT MOST 1048576: true; the input reads as it did. -/
def automatonMeansUptoRow : OpenClaim := { program := "ythdfkabdoidjfaagreatdoor", sum := "2f2417cd202f899938dd912ebaf6c339110efe330e5964f617e6f3d4050f929e", func := "corpora/corporalaw20.AutomatonMeans", spec := "automatonMeans", inPlace := ["internal/bytealg.IndexByteString", "internal/bytealg.IndexString"], unfollowed := true, recurses := true, named := ["unicode/utf8.first", "unicode/utf8.acceptRanges", "internal/bytealg.MaxLen"], loops := true, plainKeys := false, apart := false, laid := [("unicode/utf8.acceptRanges", laid_unicode_utf8_acceptRanges), ("unicode/utf8.first", laid_unicode_utf8_first)], narrowed := true }
def AutomatonMeansUptoSaid : Prop := automatonMeansUptoRow.holds Tryz.pinned (OpenSpec.upto automatonMeansSpec)

/-- 'corporalaw20.AutomatonShortest', WHERE WHAT IT READS IS OF BULK AT MOST 1048576: true; the input reads as it did. -/
def automatonShortestUptoRow : OpenClaim := { program := "ythdfkabdoidjfaagreatdoor", sum := "2f2417cd202f899938dd912ebaf6c339110efe330e5964f617e6f3d4050f929e", func := "corpora/corporalaw20.AutomatonShortest", spec := "automatonShortest", inPlace := ["internal/bytealg.IndexByteString", "internal/bytealg.IndexString"], unfollowed := true, recurses := true, named := ["unicode/utf8.first", "unicode/utf8.acceptRanges", "internal/bytealg.MaxLen"], plainKeys := false, apart := false, laid := [("unicode/utf8.acceptRanges", laid_unicode_utf8_acceptRanges), ("unicode/utf8.first", laid_unicode_utf8_first)], narrowed := true }
def AutomatonShortestUptoSaid : Prop := automatonShortestUptoRow.holds Tryz.pinned (OpenSpec.upto automatonShortestSpec)

/-- 'corporalaw20.AutomatonDecides', WHERE WHAT IT READS IS OF BULK AT MOST 1048576: true; the input reads as it did. -/
def automatonDecidesUptoRow : OpenClaim := { program := "ythdfkabdoidjfaagreatdoor", sum := "2f2417cd202f899938dd912ebaf6c339110efe330e5964f617e6f3d4050f929e", func := "corpora/corporalaw20.AutomatonDecides", spec := "automatonDecides", inPlace := ["internal/bytealg.IndexByteString", "internal/bytealg.IndexString"], unfollowed := true, recurses := true, named := ["unicode/utf8.first", "unicode/utf8.acceptRanges", "internal/bytealg.MaxLen"], plainKeys := false, apart := false, laid := [("unicode/utf8.acceptRanges", laid_unicode_utf8_acceptRanges), ("unicode/utf8.first", laid_unicode_utf8_first)], narrowed := true }
def AutomatonDecidesUptoSaid : Prop := automatonDecidesUptoRow.holds Tryz.pinned (OpenSpec.upto automatonDecidesSpec)

end Rows
end Go.Proofs.YthdfkabdoidjfaaGreatDoor
