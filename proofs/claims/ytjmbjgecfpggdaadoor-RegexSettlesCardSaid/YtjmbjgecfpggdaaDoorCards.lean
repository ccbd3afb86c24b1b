/-
  DERIVED. GIVEN WITH THE SEED: THE CARDS: each row of YtjmbjgecfpggdaaDoorRows.lean that lists a variable, with what it lists TIED to the program's text (the seventh form; the later family's looks); each row that meets fmt, with fmt's text TOLD by the authors' own Lean function (tested against real Go, not proved from fmt's source: count such statements apart). THE CARD IS WHAT COUNTS. Prove the row's statement (the work); the ties are given (YtjmbjgecfpggdaaDoorTie.lean); close each card by the builder's one call (the guide's Derived/Test/ToyasCard.lean, 'card_holds'). Laid BY PROGRAM, IN A SANDBOX (cutbox-door.mjs). By AI agents, Wed Nov 11 2026. No macro, syntax, notation, axiom, sorry.
-/
import Derived.Test.YtjmbjgecfpggdaaDoorRows
import GoSem.ClaimSeven
namespace Go.Proofs.YtjmbjgecfpggdaaDoor
namespace Rows

/-- THE TIED CARD OF 'corporalaw19.RegexValidates'. -/
def regexValidatesCard : Claim7 := { stood := { row := regexValidatesRow, standIns := [], harness := (true, "2f9850b255b81aed01d5587f4360805ee905aa60a226257c255bca042f7bafb3"), looks := false }, kinds := [], alts := [], laidByText := true, laidKinds := [.data, .pinned], laidTests := true, laidLooks := .later }
def RegexValidatesCardSaid : Prop := Claim7.holds Tryd.pinned (.plain (OpenSpec.ofChange regexValidatesSpec)) regexValidatesCard

/-- THE TIED CARD OF 'corporalaw19.RegexStays'. -/
def regexStaysCard : Claim7 := { stood := { row := regexStaysRow, standIns := [], harness := (true, "2f9850b255b81aed01d5587f4360805ee905aa60a226257c255bca042f7bafb3"), looks := false }, kinds := [], alts := [], laidByText := true, laidKinds := [.data, .pinned], laidTests := true, laidLooks := .later }
def RegexStaysCardSaid : Prop := Claim7.holds Tryd.pinned (.plain (OpenSpec.ofChange regexStaysSpec)) regexStaysCard

/-- THE TIED CARD OF 'corporalaw19.RegexCases'. -/
def regexCasesCard : Claim7 := { stood := { row := regexCasesRow, standIns := [], harness := (true, "2f9850b255b81aed01d5587f4360805ee905aa60a226257c255bca042f7bafb3"), looks := false }, kinds := [], alts := [], laidByText := true, laidKinds := [.data, .pinned], laidTests := true, laidLooks := .later }
def RegexCasesCardSaid : Prop := Claim7.holds Tryd.pinned (.plain (OpenSpec.ofChange regexCasesSpec)) regexCasesCard

/-- THE TIED CARD OF 'corporalaw19.RegexCounts'. -/
def regexCountsCard : Claim7 := { stood := { row := regexCountsRow, standIns := [], harness := (true, "2f9850b255b81aed01d5587f4360805ee905aa60a226257c255bca042f7bafb3"), looks := false }, kinds := [], alts := [], laidByText := true, laidKinds := [.data, .pinned], laidTests := true, laidLooks := .later }
def RegexCountsCardSaid : Prop := Claim7.holds Tryd.pinned (.plain (OpenSpec.ofChange regexCountsSpec)) regexCountsCard

/-- THE TIED CARD OF 'corporalaw19.RegexAlgebra'. -/
def regexAlgebraCard : Claim7 := { stood := { row := regexAlgebraRow, standIns := [], harness := (true, "2f9850b255b81aed01d5587f4360805ee905aa60a226257c255bca042f7bafb3"), looks := false }, kinds := [], alts := [], laidByText := true, laidKinds := [.data, .pinned], laidTests := true, laidLooks := .later }
def RegexAlgebraCardSaid : Prop := Claim7.holds Tryd.pinned (.plain (OpenSpec.ofChange regexAlgebraSpec)) regexAlgebraCard

/-- THE TIED CARD OF 'corporalaw19.RegexSettles'. -/
def regexSettlesCard : Claim7 := { stood := { row := regexSettlesRow, standIns := [], harness := (true, "2f9850b255b81aed01d5587f4360805ee905aa60a226257c255bca042f7bafb3"), looks := false }, kinds := [], alts := [], laidByText := true, laidKinds := [.data, .pinned], laidTests := true, laidLooks := .later }
def RegexSettlesCardSaid : Prop := Claim7.holds Tryd.pinned (.plain (OpenSpec.ofChange regexSettlesSpec)) regexSettlesCard

/-- THE SECOND FORM's CARD OF 'corporalaw19.RegexValidates'. -/
def regexValidatesUptoCard : Claim7 := { stood := { row := regexValidatesUptoRow, standIns := [], harness := (true, "2f9850b255b81aed01d5587f4360805ee905aa60a226257c255bca042f7bafb3"), looks := false }, kinds := [], alts := [], laidByText := true, laidKinds := [.data, .pinned], laidTests := true, laidLooks := .later }
def RegexValidatesUptoCardSaid : Prop := Claim7.holds Tryd.pinned (.plain (OpenSpec.upto regexValidatesSpec)) regexValidatesUptoCard

/-- THE SECOND FORM's CARD OF 'corporalaw19.RegexStays'. -/
def regexStaysUptoCard : Claim7 := { stood := { row := regexStaysUptoRow, standIns := [], harness := (true, "2f9850b255b81aed01d5587f4360805ee905aa60a226257c255bca042f7bafb3"), looks := false }, kinds := [], alts := [], laidByText := true, laidKinds := [.data, .pinned], laidTests := true, laidLooks := .later }
def RegexStaysUptoCardSaid : Prop := Claim7.holds Tryd.pinned (.plain (OpenSpec.upto regexStaysSpec)) regexStaysUptoCard

/-- THE SECOND FORM's CARD OF 'corporalaw19.RegexCases'. -/
def regexCasesUptoCard : Claim7 := { stood := { row := regexCasesUptoRow, standIns := [], harness := (true, "2f9850b255b81aed01d5587f4360805ee905aa60a226257c255bca042f7bafb3"), looks := false }, kinds := [], alts := [], laidByText := true, laidKinds := [.data, .pinned], laidTests := true, laidLooks := .later }
def RegexCasesUptoCardSaid : Prop := Claim7.holds Tryd.pinned (.plain (OpenSpec.upto regexCasesSpec)) regexCasesUptoCard

/-- THE SECOND FORM's CARD OF 'corporalaw19.RegexCounts'. -/
def regexCountsUptoCard : Claim7 := { stood := { row := regexCountsUptoRow, standIns := [], harness := (true, "2f9850b255b81aed01d5587f4360805ee905aa60a226257c255bca042f7bafb3"), looks := false }, kinds := [], alts := [], laidByText := true, laidKinds := [.data, .pinned], laidTests := true, laidLooks := .later }
def RegexCountsUptoCardSaid : Prop := Claim7.holds Tryd.pinned (.plain (OpenSpec.upto regexCountsSpec)) regexCountsUptoCard

/-- THE SECOND FORM's CARD OF 'corporalaw19.RegexAlgebra'. -/
def regexAlgebraUptoCard : Claim7 := { stood := { row := regexAlgebraUptoRow, standIns := [], harness := (true, "2f9850b255b81aed01d5587f4360805ee905aa60a226257c255bca042f7bafb3"), looks := false }, kinds := [], alts := [], laidByText := true, laidKinds := [.data, .pinned], laidTests := true, laidLooks := .later }
def RegexAlgebraUptoCardSaid : Prop := Claim7.holds Tryd.pinned (.plain (OpenSpec.upto regexAlgebraSpec)) regexAlgebraUptoCard

/-- THE SECOND FORM's CARD OF 'corporalaw19.RegexSettles'. -/
def regexSettlesUptoCard : Claim7 := { stood := { row := regexSettlesUptoRow, standIns := [], harness := (true, "2f9850b255b81aed01d5587f4360805ee905aa60a226257c255bca042f7bafb3"), looks := false }, kinds := [], alts := [], laidByText := true, laidKinds := [.data, .pinned], laidTests := true, laidLooks := .later }
def RegexSettlesUptoCardSaid : Prop := Claim7.holds Tryd.pinned (.plain (OpenSpec.upto regexSettlesSpec)) regexSettlesUptoCard
end Rows
end Go.Proofs.YtjmbjgecfpggdaaDoor
