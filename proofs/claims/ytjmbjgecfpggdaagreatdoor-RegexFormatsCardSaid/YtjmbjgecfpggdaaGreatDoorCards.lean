/-
  DERIVED. GIVEN WITH THE SEED: THE CARDS: each row of YtjmbjgecfpggdaaGreatDoorRows.lean that lists a variable, with what it lists TIED to the program's text (the seventh form; the later family's looks); each row that meets fmt, with fmt's text TOLD by the authors' own Lean function (tested against real Go, not proved from fmt's source: count such statements apart). THE CARD IS WHAT COUNTS. Prove the row's statement (the work); the ties are given (YtjmbjgecfpggdaaGreatDoorTie.lean); close each card by the builder's one call (the guide's Derived/Test/ToyasCard.lean, 'card_holds'). Laid BY PROGRAM, IN A SANDBOX (cutbox-door.mjs). By AI agents, Wed Nov 11 2026. No macro, syntax, notation, axiom, sorry.
-/
import Derived.Test.YtjmbjgecfpggdaaGreatDoorRows
import GoSem.ClaimSeven
namespace Go.Proofs.YtjmbjgecfpggdaaGreatDoor
namespace Rows

/-- THE TIED CARD OF 'corporalaw19.RegexParses'. -/
def regexParsesCard : Claim7 := { stood := { row := regexParsesRow, standIns := [], harness := (true, "27eb57a98c8320ce44b052ac8dd3520dfc83923b06f1b5d27a9ac5d4c8ed8d7b"), looks := false }, kinds := [], alts := [], laidByText := true, laidKinds := [.data, .pinned], laidTests := true, laidLooks := .later }
def RegexParsesCardSaid : Prop := Claim7.holds Tryz.pinned (.plain (OpenSpec.ofChange regexParsesSpec)) regexParsesCard

/-- THE TIED CARD OF 'corporalaw19.RegexFormats'. -/
def regexFormatsCard : Claim7 := { stood := { row := regexFormatsRow, standIns := [], harness := (true, "27eb57a98c8320ce44b052ac8dd3520dfc83923b06f1b5d27a9ac5d4c8ed8d7b"), looks := false }, kinds := [], alts := [], laidByText := true, laidKinds := [.data, .pinned], laidTests := true, laidLooks := .later }
def RegexFormatsCardSaid : Prop := Claim7.holds Tryz.pinned (.plain (OpenSpec.ofChange regexFormatsSpec)) regexFormatsCard

/-- THE TIED CARD OF 'corporalaw19.RegexRoundTrips'. -/
def regexRoundTripsCard : Claim7 := { stood := { row := regexRoundTripsRow, standIns := [], harness := (true, "27eb57a98c8320ce44b052ac8dd3520dfc83923b06f1b5d27a9ac5d4c8ed8d7b"), looks := false }, kinds := [], alts := [], laidByText := true, laidKinds := [.data, .pinned], laidTests := true, laidLooks := .later }
def RegexRoundTripsCardSaid : Prop := Claim7.holds Tryz.pinned (.plain (OpenSpec.ofChange regexRoundTripsSpec)) regexRoundTripsCard

/-- THE SECOND FORM's CARD OF 'corporalaw19.RegexParses'. -/
def regexParsesUptoCard : Claim7 := { stood := { row := regexParsesUptoRow, standIns := [], harness := (true, "27eb57a98c8320ce44b052ac8dd3520dfc83923b06f1b5d27a9ac5d4c8ed8d7b"), looks := false }, kinds := [], alts := [], laidByText := true, laidKinds := [.data, .pinned], laidTests := true, laidLooks := .later }
def RegexParsesUptoCardSaid : Prop := Claim7.holds Tryz.pinned (.plain (OpenSpec.upto regexParsesSpec)) regexParsesUptoCard

/-- THE SECOND FORM's CARD OF 'corporalaw19.RegexFormats'. -/
def regexFormatsUptoCard : Claim7 := { stood := { row := regexFormatsUptoRow, standIns := [], harness := (true, "27eb57a98c8320ce44b052ac8dd3520dfc83923b06f1b5d27a9ac5d4c8ed8d7b"), looks := false }, kinds := [], alts := [], laidByText := true, laidKinds := [.data, .pinned], laidTests := true, laidLooks := .later }
def RegexFormatsUptoCardSaid : Prop := Claim7.holds Tryz.pinned (.plain (OpenSpec.upto regexFormatsSpec)) regexFormatsUptoCard

/-- THE SECOND FORM's CARD OF 'corporalaw19.RegexRoundTrips'. -/
def regexRoundTripsUptoCard : Claim7 := { stood := { row := regexRoundTripsUptoRow, standIns := [], harness := (true, "27eb57a98c8320ce44b052ac8dd3520dfc83923b06f1b5d27a9ac5d4c8ed8d7b"), looks := false }, kinds := [], alts := [], laidByText := true, laidKinds := [.data, .pinned], laidTests := true, laidLooks := .later }
def RegexRoundTripsUptoCardSaid : Prop := Claim7.holds Tryz.pinned (.plain (OpenSpec.upto regexRoundTripsSpec)) regexRoundTripsUptoCard
end Rows
end Go.Proofs.YtjmbjgecfpggdaaGreatDoor
