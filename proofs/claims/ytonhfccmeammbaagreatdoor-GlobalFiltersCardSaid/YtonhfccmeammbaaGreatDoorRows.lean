/-
  NARROWER THAN 'FOR EVERY INPUT', by the rows' own cells (each row's printed sentence says how): GlobalHolds: laid · GlobalUnbound: laid · GlobalOrder: laid · GlobalFilters: laid · GlobalBoolean: laid · TreerelGlobal: laid.
  DERIVED. THE GIVEN ROWS OF THIS SEAT. 6 by the template 'for every input the law returns true; each argument reads behind the call as it read before'; 0 by the template 'total and deterministic' (their statements: YtonhfccmeammbaaGreatDoorTotals.lean).
  GIVEN WITH THE SEED: the statements are not yours to turn. If you find one false, say at which input.
  Laid BY PROGRAM, IN A SANDBOX (cutbox-rows.mjs): the forced cells as the released guide's own fill.sh prints them over the translation 693c3d6ca005f7d0… (all of the seat's roots in one cut). By AI agents, Wed Nov 11 2026. No macro, syntax, notation, axiom, sorry.
-/
import Derived.Test.YtonhfccmeammbaaGreatDoorChecked
import GoSem.PinnedTables
import GoSem.Claim
import GoSem.ClaimJoined
import GoSem.ClaimMapViews
import Derived.JoinedTies
import Derived.KernelRfl
namespace Go.Proofs.YtonhfccmeammbaaGreatDoor
/- THE CELL 'sum', in the pinned program and in every row, IS THE sha256 OF THE DUMP (.gsa) THAT YtonhfccmeammbaaGreatDoorProg.lean LOADS. Nothing in Lean hashes anything: it is a label: what it is worth is what the hold of that sum in a sandbox is worth. -/
noncomputable def Tryz.pinned : Pinned := { name := "ytonhfccmeammbaagreatdoor", sum := "693c3d6ca005f7d0ce21cc8e7a9924348c33c2fb351d5a49e501da9569476a21", checked := Tryz.checked }
namespace Rows
def none {H : Type} : Left H := { results := [], args := [] }

/- WHAT THE LISTED PACKAGE-LEVEL VARIABLES READ AS WHEN THE CALL BEGINS. Each datum BY PROGRAM (the guide's laid-datum.mjs) off the statement by which the dump's own 'gosem.cut.vars' lays the variable. In a bare row this is a premise. The card (YtonhfccmeammbaaGreatDoorCards.lean) ties it to the program's text. -/
def laid_unicode_utf8_acceptRanges {H : Type} : DataW H := .agg [.agg [.lit (.int .u8 128), .lit (.int .u8 191)], .agg [.lit (.int .u8 160), .lit (.int .u8 191)], .agg [.lit (.int .u8 128), .lit (.int .u8 159)], .agg [.lit (.int .u8 144), .lit (.int .u8 191)], .agg [.lit (.int .u8 128), .lit (.int .u8 143)], .agg [.lit (.int .u8 0), .lit (.int .u8 0)], .agg [.lit (.int .u8 0), .lit (.int .u8 0)], .agg [.lit (.int .u8 0), .lit (.int .u8 0)], .agg [.lit (.int .u8 0), .lit (.int .u8 0)], .agg [.lit (.int .u8 0), .lit (.int .u8 0)], .agg [.lit (.int .u8 0), .lit (.int .u8 0)], .agg [.lit (.int .u8 0), .lit (.int .u8 0)], .agg [.lit (.int .u8 0), .lit (.int .u8 0)], .agg [.lit (.int .u8 0), .lit (.int .u8 0)], .agg [.lit (.int .u8 0), .lit (.int .u8 0)], .agg [.lit (.int .u8 0), .lit (.int .u8 0)]]
/-- One of Go's own tables, pinned by name: the form's constant. -/
def laid_unicode_utf8_first : DataW Unit := Go.Pinned.utf8First

/-- 'corporalaw26.GlobalHolds': WHATEVER THE INPUT: true; the input reads as it did. -/
def globalHoldsSpec : ChangeSpec := { name := "globalHolds", fn := fun _ => fun
  | [d1, d2] => { results := [.lit (.bool true)], args := [d1, d2] }
  | _ => none }
def globalHoldsRow : OpenClaim := { program := "ytonhfccmeammbaagreatdoor", sum := "693c3d6ca005f7d0ce21cc8e7a9924348c33c2fb351d5a49e501da9569476a21", func := "corpora/corporalaw26.GlobalHolds", spec := "globalHolds", inPlace := ["internal/bytealg.IndexByteString", "internal/bytealg.IndexString"], unfollowed := true, recurses := true, named := ["unicode/utf8.first", "unicode/utf8.acceptRanges", "internal/bytealg.MaxLen"], apart := false, laid := [("unicode/utf8.acceptRanges", laid_unicode_utf8_acceptRanges), ("unicode/utf8.first", laid_unicode_utf8_first)] }
def GlobalHoldsSaid : Prop := globalHoldsRow.holds Tryz.pinned (OpenSpec.ofChange globalHoldsSpec)

/-- ITS FALSE NEIGHBOUR: 'it returns false'. Refute it at one input. -/
def globalHoldsWrong : ChangeSpec := { name := "globalHolds", fn := fun _ => fun
  | [d1, d2] => { results := [.lit (.bool false)], args := [d1, d2] }
  | _ => none }
def GlobalHoldsWrongFalsely : Prop := globalHoldsRow.holds Tryz.pinned (OpenSpec.ofChange globalHoldsWrong)

/-- 'corporalaw26.GlobalUnbound': WHATEVER THE INPUT: true; the input reads as it did. -/
def globalUnboundSpec : ChangeSpec := { name := "globalUnbound", fn := fun _ => fun
  | [d1, d2] => { results := [.lit (.bool true)], args := [d1, d2] }
  | _ => none }
def globalUnboundRow : OpenClaim := { program := "ytonhfccmeammbaagreatdoor", sum := "693c3d6ca005f7d0ce21cc8e7a9924348c33c2fb351d5a49e501da9569476a21", func := "corpora/corporalaw26.GlobalUnbound", spec := "globalUnbound", inPlace := ["internal/bytealg.IndexByteString", "internal/bytealg.IndexString"], unfollowed := true, recurses := true, named := ["unicode/utf8.first", "unicode/utf8.acceptRanges", "internal/bytealg.MaxLen"], apart := false, laid := [("unicode/utf8.acceptRanges", laid_unicode_utf8_acceptRanges), ("unicode/utf8.first", laid_unicode_utf8_first)] }
def GlobalUnboundSaid : Prop := globalUnboundRow.holds Tryz.pinned (OpenSpec.ofChange globalUnboundSpec)

/-- ITS FALSE NEIGHBOUR: 'it returns false'. Refute it at one input. -/
def globalUnboundWrong : ChangeSpec := { name := "globalUnbound", fn := fun _ => fun
  | [d1, d2] => { results := [.lit (.bool false)], args := [d1, d2] }
  | _ => none }
def GlobalUnboundWrongFalsely : Prop := globalUnboundRow.holds Tryz.pinned (OpenSpec.ofChange globalUnboundWrong)

/-- 'corporalaw26.GlobalOrder': WHATEVER THE INPUT: true; the input reads as it did. -/
def globalOrderSpec : ChangeSpec := { name := "globalOrder", fn := fun _ => fun
  | [d1, d2, d3] => { results := [.lit (.bool true)], args := [d1, d2, d3] }
  | _ => none }
def globalOrderRow : OpenClaim := { program := "ytonhfccmeammbaagreatdoor", sum := "693c3d6ca005f7d0ce21cc8e7a9924348c33c2fb351d5a49e501da9569476a21", func := "corpora/corporalaw26.GlobalOrder", spec := "globalOrder", inPlace := ["internal/bytealg.IndexByteString", "internal/bytealg.IndexString"], unfollowed := true, recurses := true, named := ["unicode/utf8.first", "unicode/utf8.acceptRanges", "internal/bytealg.MaxLen"], apart := false, laid := [("unicode/utf8.acceptRanges", laid_unicode_utf8_acceptRanges), ("unicode/utf8.first", laid_unicode_utf8_first)] }
def GlobalOrderSaid : Prop := globalOrderRow.holds Tryz.pinned (OpenSpec.ofChange globalOrderSpec)

/-- ITS FALSE NEIGHBOUR: 'it returns false'. Refute it at one input. -/
def globalOrderWrong : ChangeSpec := { name := "globalOrder", fn := fun _ => fun
  | [d1, d2, d3] => { results := [.lit (.bool false)], args := [d1, d2, d3] }
  | _ => none }
def GlobalOrderWrongFalsely : Prop := globalOrderRow.holds Tryz.pinned (OpenSpec.ofChange globalOrderWrong)

/-- 'corporalaw26.GlobalFilters': WHATEVER THE INPUT: true; the input reads as it did. -/
def globalFiltersSpec : ChangeSpec := { name := "globalFilters", fn := fun _ => fun
  | [d1, d2] => { results := [.lit (.bool true)], args := [d1, d2] }
  | _ => none }
def globalFiltersRow : OpenClaim := { program := "ytonhfccmeammbaagreatdoor", sum := "693c3d6ca005f7d0ce21cc8e7a9924348c33c2fb351d5a49e501da9569476a21", func := "corpora/corporalaw26.GlobalFilters", spec := "globalFilters", inPlace := ["internal/bytealg.IndexByteString", "internal/bytealg.IndexString"], unfollowed := true, recurses := true, named := ["unicode/utf8.first", "unicode/utf8.acceptRanges", "internal/bytealg.MaxLen"], apart := false, laid := [("unicode/utf8.acceptRanges", laid_unicode_utf8_acceptRanges), ("unicode/utf8.first", laid_unicode_utf8_first)] }
def GlobalFiltersSaid : Prop := globalFiltersRow.holds Tryz.pinned (OpenSpec.ofChange globalFiltersSpec)

/-- ITS FALSE NEIGHBOUR: 'it returns false'. Refute it at one input. -/
def globalFiltersWrong : ChangeSpec := { name := "globalFilters", fn := fun _ => fun
  | [d1, d2] => { results := [.lit (.bool false)], args := [d1, d2] }
  | _ => none }
def GlobalFiltersWrongFalsely : Prop := globalFiltersRow.holds Tryz.pinned (OpenSpec.ofChange globalFiltersWrong)

/-- 'corporalaw26.GlobalBoolean': WHATEVER THE INPUT: true; the input reads as it did. -/
def globalBooleanSpec : ChangeSpec := { name := "globalBoolean", fn := fun _ => fun
  | [d1, d2] => { results := [.lit (.bool true)], args := [d1, d2] }
  | _ => none }
def globalBooleanRow : OpenClaim := { program := "ytonhfccmeammbaagreatdoor", sum := "693c3d6ca005f7d0ce21cc8e7a9924348c33c2fb351d5a49e501da9569476a21", func := "corpora/corporalaw26.GlobalBoolean", spec := "globalBoolean", inPlace := ["internal/bytealg.IndexByteString", "internal/bytealg.IndexString"], unfollowed := true, recurses := true, named := ["unicode/utf8.first", "unicode/utf8.acceptRanges", "internal/bytealg.MaxLen"], apart := false, laid := [("unicode/utf8.acceptRanges", laid_unicode_utf8_acceptRanges), ("unicode/utf8.first", laid_unicode_utf8_first)] }
def GlobalBooleanSaid : Prop := globalBooleanRow.holds Tryz.pinned (OpenSpec.ofChange globalBooleanSpec)

/-- ITS FALSE NEIGHBOUR: 'it returns false'. Refute it at one input. -/
def globalBooleanWrong : ChangeSpec := { name := "globalBoolean", fn := fun _ => fun
  | [d1, d2] => { results := [.lit (.bool false)], args := [d1, d2] }
  | _ => none }
def GlobalBooleanWrongFalsely : Prop := globalBooleanRow.holds Tryz.pinned (OpenSpec.ofChange globalBooleanWrong)

/-- 'corporalaw29.TreerelGlobal': WHATEVER THE INPUT: true; the input reads as it did. -/
def treerelGlobalSpec : ChangeSpec := { name := "treerelGlobal", fn := fun _ => fun
  | [d1, d2, d3] => { results := [.lit (.bool true)], args := [d1, d2, d3] }
  | _ => none }
def treerelGlobalRow : OpenClaim := { program := "ytonhfccmeammbaagreatdoor", sum := "693c3d6ca005f7d0ce21cc8e7a9924348c33c2fb351d5a49e501da9569476a21", func := "corpora/corporalaw29.TreerelGlobal", spec := "treerelGlobal", inPlace := ["internal/bytealg.IndexByteString", "internal/bytealg.IndexString"], unfollowed := true, recurses := true, named := ["unicode/utf8.first", "unicode/utf8.acceptRanges", "internal/bytealg.MaxLen"], apart := false, laid := [("unicode/utf8.acceptRanges", laid_unicode_utf8_acceptRanges), ("unicode/utf8.first", laid_unicode_utf8_first)] }
def TreerelGlobalSaid : Prop := treerelGlobalRow.holds Tryz.pinned (OpenSpec.ofChange treerelGlobalSpec)

/-- ITS FALSE NEIGHBOUR: 'it returns false'. Refute it at one input. -/
def treerelGlobalWrong : ChangeSpec := { name := "treerelGlobal", fn := fun _ => fun
  | [d1, d2, d3] => { results := [.lit (.bool false)], args := [d1, d2, d3] }
  | _ => none }
def TreerelGlobalWrongFalsely : Prop := treerelGlobalRow.holds Tryz.pinned (OpenSpec.ofChange treerelGlobalWrong)

/- THE SECOND FORM. 'bulk': how many values and letters a reading holds, each counted each time it is reached (what is shared counts as often as it is met; a slice's spare places count too). A statement '..UptoSaid' is the law's where the arguments, and the package variables that the reading takes, are together of bulk at most 1048576: NARROWER than '..Said'. Prove '..Said' where nothing that the law and all that it calls make is longer than what came in: it says more and counts as full. Else prove '..UptoSaid'. A law counts once. -/
mutual
def uptoBulk {H : Type} : DataW H → Nat
  | .lit (.string bytes) => bytes.length + 1
  | .lit _ => 1
  | .nil => 1
  | .ptr d => uptoBulk d + 1
  | .slice elems spare => uptoBulkAll elems + uptoBulkAll spare + 1
  | .agg parts => uptoBulkAll parts + 1
  | .iface _ d => uptoBulk d + 1
  | .map entries => uptoBulkEntries entries + 1
  | .held _ => 1
def uptoBulkAll {H : Type} : List (DataW H) → Nat
  | [] => 0
  | d :: r => uptoBulk d + uptoBulkAll r
def uptoBulkEntries {H : Type} : List (Lit × DataW H) → Nat
  | [] => 0
  | x :: r => uptoBulkEntry x + uptoBulkEntries r
def uptoBulkEntry {H : Type} : Lit × DataW H → Nat
  | (.string bytes, d) => bytes.length + uptoBulk d + 1
  | (_, d) => uptoBulk d + 1
 end
def uptoSmall : (H : Type) → List (DataW H) → Bool := fun _ ds => decide (uptoBulkAll ds ≤ 1048576)
def OpenSpec.upto (s : _root_.Go.ChangeSpec) : _root_.Go.OpenSpec := { _root_.Go.OpenSpec.ofChange s with cond := some uptoSmall }

/-- 'corporalaw26.GlobalHolds', WHERE WHAT IT READS IS OF BULK AT MOST 1048576: true; the input reads as it did. -/
def globalHoldsUptoRow : OpenClaim := { program := "ytonhfccmeammbaagreatdoor", sum := "693c3d6ca005f7d0ce21cc8e7a9924348c33c2fb351d5a49e501da9569476a21", func := "corpora/corporalaw26.GlobalHolds", spec := "globalHolds", inPlace := ["internal/bytealg.IndexByteString", "internal/bytealg.IndexString"], unfollowed := true, recurses := true, named := ["unicode/utf8.first", "unicode/utf8.acceptRanges", "internal/bytealg.MaxLen"], apart := false, laid := [("unicode/utf8.acceptRanges", laid_unicode_utf8_acceptRanges), ("unicode/utf8.first", laid_unicode_utf8_first)], narrowed := true }
def GlobalHoldsUptoSaid : Prop := globalHoldsUptoRow.holds Tryz.pinned (OpenSpec.upto globalHoldsSpec)

/-- 'corporalaw26.GlobalUnbound', WHERE WHAT IT READS IS OF BULK AT MOST 1048576: true; the input reads as it did. -/
def globalUnboundUptoRow : OpenClaim := { program := "ytonhfccmeammbaagreatdoor", sum := "693c3d6ca005f7d0ce21cc8e7a9924348c33c2fb351d5a49e501da9569476a21", func := "corpora/corporalaw26.GlobalUnbound", spec := "globalUnbound", inPlace := ["internal/bytealg.IndexByteString", "internal/bytealg.IndexString"], unfollowed := true, recurses := true, named := ["unicode/utf8.first", "unicode/utf8.acceptRanges", "internal/bytealg.MaxLen"], apart := false, laid := [("unicode/utf8.acceptRanges", laid_unicode_utf8_acceptRanges), ("unicode/utf8.first", laid_unicode_utf8_first)], narrowed := true }
def GlobalUnboundUptoSaid : Prop := globalUnboundUptoRow.holds Tryz.pinned (OpenSpec.upto globalUnboundSpec)

/-- 'corporalaw26.GlobalOrder', WHERE WHAT IT READS IS OF BULK AT MOST 1048576: true; the input reads as it did. -/
def globalOrderUptoRow : OpenClaim := { program := "ytonhfccmeammbaagreatdoor", sum := "693c3d6ca005f7d0ce21cc8e7a9924348c33c2fb351d5a49e501da9569476a21", func := "corpora/corporalaw26.GlobalOrder", spec := "globalOrder", inPlace := ["internal/bytealg.IndexByteString", "internal/bytealg.IndexString"], unfollowed := true, recurses := true, named := ["unicode/utf8.first", "unicode/utf8.acceptRanges", "internal/bytealg.MaxLen"], apart := false, laid := [("unicode/utf8.acceptRanges", laid_unicode_utf8_acceptRanges), ("unicode/utf8.first", laid_unicode_utf8_first)], narrowed := true }
def GlobalOrderUptoSaid : Prop := globalOrderUptoRow.holds Tryz.pinned (OpenSpec.upto globalOrderSpec)

/-- 'corporalaw26.GlobalFilters', WHERE WHAT IT READS IS OF BULK AT MOST 1048576: true; the input reads as it did. -/
def globalFiltersUptoRow : OpenClaim := { program := "ytonhfccmeammbaagreatdoor", sum := "693c3d6ca005f7d0ce21cc8e7a9924348c33c2fb351d5a49e501da9569476a21", func := "corpora/corporalaw26.GlobalFilters", spec := "globalFilters", inPlace := ["internal/bytealg.IndexByteString", "internal/bytealg.IndexString"], unfollowed := true, recurses := true, named := ["unicode/utf8.first", "unicode/utf8.acceptRanges", "internal/bytealg.MaxLen"], apart := false, laid := [("unicode/utf8.acceptRanges", laid_unicode_utf8_acceptRanges), ("unicode/utf8.first", laid_unicode_utf8_first)], narrowed := true }
def GlobalFiltersUptoSaid : Prop := globalFiltersUptoRow.holds Tryz.pinned (OpenSpec.upto globalFiltersSpec)

/-- 'corporalaw26.GlobalBoolean', WHERE WHAT IT READS IS OF BULK AT MOST 1048576: true; the input reads as it did. -/
def globalBooleanUptoRow : OpenClaim := { program := "ytonhfccmeammbaagreatdoor", sum := "693c3d6ca005f7d0ce21cc8e7a9924348c33c2fb351d5a49e501da9569476a21", func := "corpora/corporalaw26.GlobalBoolean", spec := "globalBoolean", inPlace := ["internal/bytealg.IndexByteString", "internal/bytealg.IndexString"], unfollowed := true, recurses := true, named := ["unicode/utf8.first", "unicode/utf8.acceptRanges", "internal/bytealg.MaxLen"], apart := false, laid := [("unicode/utf8.acceptRanges", laid_unicode_utf8_acceptRanges), ("unicode/utf8.first", laid_unicode_utf8_first)], narrowed := true }
def GlobalBooleanUptoSaid : Prop := globalBooleanUptoRow.holds Tryz.pinned (OpenSpec.upto globalBooleanSpec)

/-- 'corporalaw29.TreerelGlobal', WHERE WHAT IT READS IS OF BULK AT MOST 1048576: true; the input reads as it did. -/
def treerelGlobalUptoRow : OpenClaim := { program := "ytonhfccmeammbaagreatdoor", sum := "693c3d6ca005f7d0ce21cc8e7a9924348c33c2fb351d5a49e501da9569476a21", func := "corpora/corporalaw29.TreerelGlobal", spec := "treerelGlobal", inPlace := ["internal/bytealg.IndexByteString", "internal/bytealg.IndexString"], unfollowed := true, recurses := true, named := ["unicode/utf8.first", "unicode/utf8.acceptRanges", "internal/bytealg.MaxLen"], apart := false, laid := [("unicode/utf8.acceptRanges", laid_unicode_utf8_acceptRanges), ("unicode/utf8.first", laid_unicode_utf8_first)], narrowed := true }
def TreerelGlobalUptoSaid : Prop := treerelGlobalUptoRow.holds Tryz.pinned (OpenSpec.upto treerelGlobalSpec)

end Rows
end Go.Proofs.YtonhfccmeammbaaGreatDoor
