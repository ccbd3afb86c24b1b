/-
  DERIVED. GIVEN WITH THE SEED: THE CARDS: each row of YtmcggompdmngmaaGreatDoorRows.lean that lists a variable, with what it lists TIED to the program's text (the seventh form; the later family's looks); each row that meets fmt, with fmt's text TOLD by the authors' own Lean function (tested against real Go, not proved from fmt's source: count such statements apart). THE CARD IS WHAT COUNTS. Prove the row's statement (the work); the ties are given (YtmcggompdmngmaaGreatDoorTie.lean); close each card by the builder's one call (the guide's Derived/Test/ToyasCard.lean, 'card_holds'). Laid BY PROGRAM, IN A SANDBOX (cutbox-door.mjs). By AI agents, Wed Nov 11 2026. No macro, syntax, notation, axiom, sorry.
-/
import Derived.Test.YtmcggompdmngmaaGreatDoorRows
import GoSem.ClaimSeven
namespace Go.Proofs.YtmcggompdmngmaaGreatDoor
namespace Rows

/-- THE TIED CARD OF 'corporalaw21.LexmatchSelects'. -/
def lexmatchSelectsCard : Claim7 := { stood := { row := lexmatchSelectsRow, standIns := [], harness := (true, "ace4db6c25a72d8721e69d8e9537531300da2d786f6a1de74bcf719e198fa3c9"), looks := false }, kinds := [], alts := [], laidByText := true, laidKinds := [.data, .pinned], laidTests := true, laidLooks := .later }
def LexmatchSelectsCardSaid : Prop := Claim7.holds Tryz.pinned (.plain (OpenSpec.ofChange lexmatchSelectsSpec)) lexmatchSelectsCard

/-- THE TIED CARD OF 'corporalaw21.LexmatchVisits'. -/
def lexmatchVisitsCard : Claim7 := { stood := { row := lexmatchVisitsRow, standIns := [], harness := (true, "ace4db6c25a72d8721e69d8e9537531300da2d786f6a1de74bcf719e198fa3c9"), looks := false }, kinds := [], alts := [], laidByText := true, laidKinds := [.data, .pinned], laidTests := true, laidLooks := .later }
def LexmatchVisitsCardSaid : Prop := Claim7.holds Tryz.pinned (.plain (OpenSpec.ofChange lexmatchVisitsSpec)) lexmatchVisitsCard

/-- THE TIED CARD OF 'corporalaw21.LexmatchLarge'. -/
def lexmatchLargeCard : Claim7 := { stood := { row := lexmatchLargeRow, standIns := [], harness := (true, "ace4db6c25a72d8721e69d8e9537531300da2d786f6a1de74bcf719e198fa3c9"), looks := false }, kinds := [], alts := [], laidByText := true, laidKinds := [.data, .pinned], laidTests := true, laidLooks := .later }
def LexmatchLargeCardSaid : Prop := Claim7.holds Tryz.pinned (.plain (OpenSpec.ofChange lexmatchLargeSpec)) lexmatchLargeCard

/-- THE TIED CARD OF 'corporalaw21.LexmatchRanges'. -/
def lexmatchRangesCard : Claim7 := { stood := { row := lexmatchRangesRow, standIns := [], harness := (true, "ace4db6c25a72d8721e69d8e9537531300da2d786f6a1de74bcf719e198fa3c9"), looks := false }, kinds := [], alts := [], laidByText := true, laidKinds := [.data, .pinned], laidTests := true, laidLooks := .later }
def LexmatchRangesCardSaid : Prop := Claim7.holds Tryz.pinned (.plain (OpenSpec.ofChange lexmatchRangesSpec)) lexmatchRangesCard

/-- THE TIED CARD OF 'corporalaw21.LexmatchCounts'. -/
def lexmatchCountsCard : Claim7 := { stood := { row := lexmatchCountsRow, standIns := [], harness := (true, "ace4db6c25a72d8721e69d8e9537531300da2d786f6a1de74bcf719e198fa3c9"), looks := false }, kinds := [], alts := [], laidByText := true, laidKinds := [.data, .pinned], laidTests := true, laidLooks := .later }
def LexmatchCountsCardSaid : Prop := Claim7.holds Tryz.pinned (.plain (OpenSpec.ofChange lexmatchCountsSpec)) lexmatchCountsCard

/-- THE TIED CARD OF 'corporalaw21.LexmatchPrefixes'. -/
def lexmatchPrefixesCard : Claim7 := { stood := { row := lexmatchPrefixesRow, standIns := [], harness := (true, "ace4db6c25a72d8721e69d8e9537531300da2d786f6a1de74bcf719e198fa3c9"), looks := false }, kinds := [], alts := [], laidByText := true, laidKinds := [.data, .pinned], laidTests := true, laidLooks := .later }
def LexmatchPrefixesCardSaid : Prop := Claim7.holds Tryz.pinned (.plain (OpenSpec.ofChange lexmatchPrefixesSpec)) lexmatchPrefixesCard

/-- THE TIED CARD OF 'corporalaw21.LexmatchAgrees'. -/
def lexmatchAgreesCard : Claim7 := { stood := { row := lexmatchAgreesRow, standIns := [], harness := (true, "ace4db6c25a72d8721e69d8e9537531300da2d786f6a1de74bcf719e198fa3c9"), looks := false }, kinds := [], alts := [], laidByText := true, laidKinds := [.data, .pinned], laidTests := true, laidLooks := .later }
def LexmatchAgreesCardSaid : Prop := Claim7.holds Tryz.pinned (.plain (OpenSpec.ofChange lexmatchAgreesSpec)) lexmatchAgreesCard

/-- THE TIED CARD OF 'corporalaw21.LexmatchBoolean'. -/
def lexmatchBooleanCard : Claim7 := { stood := { row := lexmatchBooleanRow, standIns := [], harness := (true, "ace4db6c25a72d8721e69d8e9537531300da2d786f6a1de74bcf719e198fa3c9"), looks := false }, kinds := [], alts := [], laidByText := true, laidKinds := [.data, .pinned], laidTests := true, laidLooks := .later }
def LexmatchBooleanCardSaid : Prop := Claim7.holds Tryz.pinned (.plain (OpenSpec.ofChange lexmatchBooleanSpec)) lexmatchBooleanCard

/-- THE SECOND FORM's CARD OF 'corporalaw21.LexmatchSelects'. -/
def lexmatchSelectsUptoCard : Claim7 := { stood := { row := lexmatchSelectsUptoRow, standIns := [], harness := (true, "ace4db6c25a72d8721e69d8e9537531300da2d786f6a1de74bcf719e198fa3c9"), looks := false }, kinds := [], alts := [], laidByText := true, laidKinds := [.data, .pinned], laidTests := true, laidLooks := .later }
def LexmatchSelectsUptoCardSaid : Prop := Claim7.holds Tryz.pinned (.plain (OpenSpec.upto lexmatchSelectsSpec)) lexmatchSelectsUptoCard

/-- THE SECOND FORM's CARD OF 'corporalaw21.LexmatchVisits'. -/
def lexmatchVisitsUptoCard : Claim7 := { stood := { row := lexmatchVisitsUptoRow, standIns := [], harness := (true, "ace4db6c25a72d8721e69d8e9537531300da2d786f6a1de74bcf719e198fa3c9"), looks := false }, kinds := [], alts := [], laidByText := true, laidKinds := [.data, .pinned], laidTests := true, laidLooks := .later }
def LexmatchVisitsUptoCardSaid : Prop := Claim7.holds Tryz.pinned (.plain (OpenSpec.upto lexmatchVisitsSpec)) lexmatchVisitsUptoCard

/-- THE SECOND FORM's CARD OF 'corporalaw21.LexmatchLarge'. -/
def lexmatchLargeUptoCard : Claim7 := { stood := { row := lexmatchLargeUptoRow, standIns := [], harness := (true, "ace4db6c25a72d8721e69d8e9537531300da2d786f6a1de74bcf719e198fa3c9"), looks := false }, kinds := [], alts := [], laidByText := true, laidKinds := [.data, .pinned], laidTests := true, laidLooks := .later }
def LexmatchLargeUptoCardSaid : Prop := Claim7.holds Tryz.pinned (.plain (OpenSpec.upto lexmatchLargeSpec)) lexmatchLargeUptoCard

/-- THE SECOND FORM's CARD OF 'corporalaw21.LexmatchRanges'. -/
def lexmatchRangesUptoCard : Claim7 := { stood := { row := lexmatchRangesUptoRow, standIns := [], harness := (true, "ace4db6c25a72d8721e69d8e9537531300da2d786f6a1de74bcf719e198fa3c9"), looks := false }, kinds := [], alts := [], laidByText := true, laidKinds := [.data, .pinned], laidTests := true, laidLooks := .later }
def LexmatchRangesUptoCardSaid : Prop := Claim7.holds Tryz.pinned (.plain (OpenSpec.upto lexmatchRangesSpec)) lexmatchRangesUptoCard

/-- THE SECOND FORM's CARD OF 'corporalaw21.LexmatchCounts'. -/
def lexmatchCountsUptoCard : Claim7 := { stood := { row := lexmatchCountsUptoRow, standIns := [], harness := (true, "ace4db6c25a72d8721e69d8e9537531300da2d786f6a1de74bcf719e198fa3c9"), looks := false }, kinds := [], alts := [], laidByText := true, laidKinds := [.data, .pinned], laidTests := true, laidLooks := .later }
def LexmatchCountsUptoCardSaid : Prop := Claim7.holds Tryz.pinned (.plain (OpenSpec.upto lexmatchCountsSpec)) lexmatchCountsUptoCard

/-- THE SECOND FORM's CARD OF 'corporalaw21.LexmatchPrefixes'. -/
def lexmatchPrefixesUptoCard : Claim7 := { stood := { row := lexmatchPrefixesUptoRow, standIns := [], harness := (true, "ace4db6c25a72d8721e69d8e9537531300da2d786f6a1de74bcf719e198fa3c9"), looks := false }, kinds := [], alts := [], laidByText := true, laidKinds := [.data, .pinned], laidTests := true, laidLooks := .later }
def LexmatchPrefixesUptoCardSaid : Prop := Claim7.holds Tryz.pinned (.plain (OpenSpec.upto lexmatchPrefixesSpec)) lexmatchPrefixesUptoCard

/-- THE SECOND FORM's CARD OF 'corporalaw21.LexmatchAgrees'. -/
def lexmatchAgreesUptoCard : Claim7 := { stood := { row := lexmatchAgreesUptoRow, standIns := [], harness := (true, "ace4db6c25a72d8721e69d8e9537531300da2d786f6a1de74bcf719e198fa3c9"), looks := false }, kinds := [], alts := [], laidByText := true, laidKinds := [.data, .pinned], laidTests := true, laidLooks := .later }
def LexmatchAgreesUptoCardSaid : Prop := Claim7.holds Tryz.pinned (.plain (OpenSpec.upto lexmatchAgreesSpec)) lexmatchAgreesUptoCard

/-- THE SECOND FORM's CARD OF 'corporalaw21.LexmatchBoolean'. -/
def lexmatchBooleanUptoCard : Claim7 := { stood := { row := lexmatchBooleanUptoRow, standIns := [], harness := (true, "ace4db6c25a72d8721e69d8e9537531300da2d786f6a1de74bcf719e198fa3c9"), looks := false }, kinds := [], alts := [], laidByText := true, laidKinds := [.data, .pinned], laidTests := true, laidLooks := .later }
def LexmatchBooleanUptoCardSaid : Prop := Claim7.holds Tryz.pinned (.plain (OpenSpec.upto lexmatchBooleanSpec)) lexmatchBooleanUptoCard
end Rows
end Go.Proofs.YtmcggompdmngmaaGreatDoor
