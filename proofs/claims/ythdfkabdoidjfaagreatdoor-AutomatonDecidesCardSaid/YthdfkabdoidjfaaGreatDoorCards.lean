/-
  DERIVED. GIVEN WITH THE SEED: THE CARDS: each row of YthdfkabdoidjfaaGreatDoorRows.lean that lists a variable, with what it lists TIED to the program's text (the seventh form; the later family's looks); each row that meets fmt, with fmt's text TOLD by the authors' own Lean function (tested against real Go, not proved from fmt's source: count such statements apart). THE CARD IS WHAT COUNTS. Prove the row's statement (the work); the ties are given (YthdfkabdoidjfaaGreatDoorTie.lean); close each card by the builder's one call (the guide's Derived/Test/ToyasCard.lean, 'card_holds'). Laid BY PROGRAM, IN A SANDBOX (cutbox-door.mjs). By AI agents, Wed Nov 11 2026. No macro, syntax, notation, axiom, sorry.
-/
import Derived.Test.YthdfkabdoidjfaaGreatDoorRows
import GoSem.ClaimSeven
namespace Go.Proofs.YthdfkabdoidjfaaGreatDoor
namespace Rows

/-- THE TIED CARD OF 'corporalaw20.AutomatonValidates'. -/
def automatonValidatesCard : Claim7 := { stood := { row := automatonValidatesRow, standIns := [], harness := (true, "d34935a9b8014765e5d87ebcbb0b683e7d27abad9f2739a520bb960b14266063"), looks := false }, kinds := [], alts := [], laidByText := true, laidKinds := [.data, .pinned], laidTests := true, laidLooks := .later }
def AutomatonValidatesCardSaid : Prop := Claim7.holds Tryz.pinned (.plain (OpenSpec.ofChange automatonValidatesSpec)) automatonValidatesCard

/-- THE TIED CARD OF 'corporalaw20.AutomatonRuns'. -/
def automatonRunsCard : Claim7 := { stood := { row := automatonRunsRow, standIns := [], harness := (true, "d34935a9b8014765e5d87ebcbb0b683e7d27abad9f2739a520bb960b14266063"), looks := false }, kinds := [], alts := [], laidByText := true, laidKinds := [.data, .pinned], laidTests := true, laidLooks := .later }
def AutomatonRunsCardSaid : Prop := Claim7.holds Tryz.pinned (.plain (OpenSpec.ofChange automatonRunsSpec)) automatonRunsCard

/-- THE TIED CARD OF 'corporalaw20.AutomatonMinimizes'. -/
def automatonMinimizesCard : Claim7 := { stood := { row := automatonMinimizesRow, standIns := [], harness := (true, "d34935a9b8014765e5d87ebcbb0b683e7d27abad9f2739a520bb960b14266063"), looks := false }, kinds := [], alts := [], laidByText := true, laidKinds := [.data, .pinned], laidTests := true, laidLooks := .later }
def AutomatonMinimizesCardSaid : Prop := Claim7.holds Tryz.pinned (.plain (OpenSpec.ofChange automatonMinimizesSpec)) automatonMinimizesCard

/-- THE TIED CARD OF 'corporalaw20.AutomatonProducts'. -/
def automatonProductsCard : Claim7 := { stood := { row := automatonProductsRow, standIns := [], harness := (true, "d34935a9b8014765e5d87ebcbb0b683e7d27abad9f2739a520bb960b14266063"), looks := false }, kinds := [], alts := [], laidByText := true, laidKinds := [.data, .pinned], laidTests := true, laidLooks := .later }
def AutomatonProductsCardSaid : Prop := Claim7.holds Tryz.pinned (.plain (OpenSpec.ofChange automatonProductsSpec)) automatonProductsCard

/-- THE TIED CARD OF 'corporalaw20.AutomatonComplements'. -/
def automatonComplementsCard : Claim7 := { stood := { row := automatonComplementsRow, standIns := [], harness := (true, "d34935a9b8014765e5d87ebcbb0b683e7d27abad9f2739a520bb960b14266063"), looks := false }, kinds := [], alts := [], laidByText := true, laidKinds := [.data, .pinned], laidTests := true, laidLooks := .later }
def AutomatonComplementsCardSaid : Prop := Claim7.holds Tryz.pinned (.plain (OpenSpec.ofChange automatonComplementsSpec)) automatonComplementsCard

/-- THE TIED CARD OF 'corporalaw20.AutomatonKeeps'. -/
def automatonKeepsCard : Claim7 := { stood := { row := automatonKeepsRow, standIns := [], harness := (true, "d34935a9b8014765e5d87ebcbb0b683e7d27abad9f2739a520bb960b14266063"), looks := false }, kinds := [], alts := [], laidByText := true, laidKinds := [.data, .pinned], laidTests := true, laidLooks := .later }
def AutomatonKeepsCardSaid : Prop := Claim7.holds Tryz.pinned (.plain (OpenSpec.ofChange automatonKeepsSpec)) automatonKeepsCard

/-- THE TIED CARD OF 'corporalaw20.AutomatonBoolean'. -/
def automatonBooleanCard : Claim7 := { stood := { row := automatonBooleanRow, standIns := [], harness := (true, "d34935a9b8014765e5d87ebcbb0b683e7d27abad9f2739a520bb960b14266063"), looks := false }, kinds := [], alts := [], laidByText := true, laidKinds := [.data, .pinned], laidTests := true, laidLooks := .later }
def AutomatonBooleanCardSaid : Prop := Claim7.holds Tryz.pinned (.plain (OpenSpec.ofChange automatonBooleanSpec)) automatonBooleanCard

/-- THE TIED CARD OF 'corporalaw20.AutomatonForms'. -/
def automatonFormsCard : Claim7 := { stood := { row := automatonFormsRow, standIns := [], harness := (true, "d34935a9b8014765e5d87ebcbb0b683e7d27abad9f2739a520bb960b14266063"), looks := false }, kinds := [], alts := [], laidByText := true, laidKinds := [.data, .pinned], laidTests := true, laidLooks := .later }
def AutomatonFormsCardSaid : Prop := Claim7.holds Tryz.pinned (.plain (OpenSpec.ofChange automatonFormsSpec)) automatonFormsCard

/-- THE TIED CARD OF 'corporalaw20.AutomatonMorgan'. -/
def automatonMorganCard : Claim7 := { stood := { row := automatonMorganRow, standIns := [], harness := (true, "d34935a9b8014765e5d87ebcbb0b683e7d27abad9f2739a520bb960b14266063"), looks := false }, kinds := [], alts := [], laidByText := true, laidKinds := [.data, .pinned], laidTests := true, laidLooks := .later }
def AutomatonMorganCardSaid : Prop := Claim7.holds Tryz.pinned (.plain (OpenSpec.ofChange automatonMorganSpec)) automatonMorganCard

/-- THE TIED CARD OF 'corporalaw20.AutomatonMeans'. -/
def automatonMeansCard : Claim7 := { stood := { row := automatonMeansRow, standIns := [], harness := (true, "d34935a9b8014765e5d87ebcbb0b683e7d27abad9f2739a520bb960b14266063"), looks := false }, kinds := [], alts := [], laidByText := true, laidKinds := [.data, .pinned], laidTests := true, laidLooks := .later }
def AutomatonMeansCardSaid : Prop := Claim7.holds Tryz.pinned (.plain (OpenSpec.ofChange automatonMeansSpec)) automatonMeansCard

/-- THE TIED CARD OF 'corporalaw20.AutomatonShortest'. -/
def automatonShortestCard : Claim7 := { stood := { row := automatonShortestRow, standIns := [], harness := (true, "d34935a9b8014765e5d87ebcbb0b683e7d27abad9f2739a520bb960b14266063"), looks := false }, kinds := [], alts := [], laidByText := true, laidKinds := [.data, .pinned], laidTests := true, laidLooks := .later }
def AutomatonShortestCardSaid : Prop := Claim7.holds Tryz.pinned (.plain (OpenSpec.ofChange automatonShortestSpec)) automatonShortestCard

/-- THE TIED CARD OF 'corporalaw20.AutomatonDecides'. -/
def automatonDecidesCard : Claim7 := { stood := { row := automatonDecidesRow, standIns := [], harness := (true, "d34935a9b8014765e5d87ebcbb0b683e7d27abad9f2739a520bb960b14266063"), looks := false }, kinds := [], alts := [], laidByText := true, laidKinds := [.data, .pinned], laidTests := true, laidLooks := .later }
def AutomatonDecidesCardSaid : Prop := Claim7.holds Tryz.pinned (.plain (OpenSpec.ofChange automatonDecidesSpec)) automatonDecidesCard

/-- THE SECOND FORM's CARD OF 'corporalaw20.AutomatonValidates'. -/
def automatonValidatesUptoCard : Claim7 := { stood := { row := automatonValidatesUptoRow, standIns := [], harness := (true, "d34935a9b8014765e5d87ebcbb0b683e7d27abad9f2739a520bb960b14266063"), looks := false }, kinds := [], alts := [], laidByText := true, laidKinds := [.data, .pinned], laidTests := true, laidLooks := .later }
def AutomatonValidatesUptoCardSaid : Prop := Claim7.holds Tryz.pinned (.plain (OpenSpec.upto automatonValidatesSpec)) automatonValidatesUptoCard

/-- THE SECOND FORM's CARD OF 'corporalaw20.AutomatonRuns'. -/
def automatonRunsUptoCard : Claim7 := { stood := { row := automatonRunsUptoRow, standIns := [], harness := (true, "d34935a9b8014765e5d87ebcbb0b683e7d27abad9f2739a520bb960b14266063"), looks := false }, kinds := [], alts := [], laidByText := true, laidKinds := [.data, .pinned], laidTests := true, laidLooks := .later }
def AutomatonRunsUptoCardSaid : Prop := Claim7.holds Tryz.pinned (.plain (OpenSpec.upto automatonRunsSpec)) automatonRunsUptoCard

/-- THE SECOND FORM's CARD OF 'corporalaw20.AutomatonMinimizes'. -/
def automatonMinimizesUptoCard : Claim7 := { stood := { row := automatonMinimizesUptoRow, standIns := [], harness := (true, "d34935a9b8014765e5d87ebcbb0b683e7d27abad9f2739a520bb960b14266063"), looks := false }, kinds := [], alts := [], laidByText := true, laidKinds := [.data, .pinned], laidTests := true, laidLooks := .later }
def AutomatonMinimizesUptoCardSaid : Prop := Claim7.holds Tryz.pinned (.plain (OpenSpec.upto automatonMinimizesSpec)) automatonMinimizesUptoCard

/-- THE SECOND FORM's CARD OF 'corporalaw20.AutomatonProducts'. -/
def automatonProductsUptoCard : Claim7 := { stood := { row := automatonProductsUptoRow, standIns := [], harness := (true, "d34935a9b8014765e5d87ebcbb0b683e7d27abad9f2739a520bb960b14266063"), looks := false }, kinds := [], alts := [], laidByText := true, laidKinds := [.data, .pinned], laidTests := true, laidLooks := .later }
def AutomatonProductsUptoCardSaid : Prop := Claim7.holds Tryz.pinned (.plain (OpenSpec.upto automatonProductsSpec)) automatonProductsUptoCard

/-- THE SECOND FORM's CARD OF 'corporalaw20.AutomatonComplements'. -/
def automatonComplementsUptoCard : Claim7 := { stood := { row := automatonComplementsUptoRow, standIns := [], harness := (true, "d34935a9b8014765e5d87ebcbb0b683e7d27abad9f2739a520bb960b14266063"), looks := false }, kinds := [], alts := [], laidByText := true, laidKinds := [.data, .pinned], laidTests := true, laidLooks := .later }
def AutomatonComplementsUptoCardSaid : Prop := Claim7.holds Tryz.pinned (.plain (OpenSpec.upto automatonComplementsSpec)) automatonComplementsUptoCard

/-- THE SECOND FORM's CARD OF 'corporalaw20.AutomatonKeeps'. -/
def automatonKeepsUptoCard : Claim7 := { stood := { row := automatonKeepsUptoRow, standIns := [], harness := (true, "d34935a9b8014765e5d87ebcbb0b683e7d27abad9f2739a520bb960b14266063"), looks := false }, kinds := [], alts := [], laidByText := true, laidKinds := [.data, .pinned], laidTests := true, laidLooks := .later }
def AutomatonKeepsUptoCardSaid : Prop := Claim7.holds Tryz.pinned (.plain (OpenSpec.upto automatonKeepsSpec)) automatonKeepsUptoCard

/-- THE SECOND FORM's CARD OF 'corporalaw20.AutomatonBoolean'. -/
def automatonBooleanUptoCard : Claim7 := { stood := { row := automatonBooleanUptoRow, standIns := [], harness := (true, "d34935a9b8014765e5d87ebcbb0b683e7d27abad9f2739a520bb960b14266063"), looks := false }, kinds := [], alts := [], laidByText := true, laidKinds := [.data, .pinned], laidTests := true, laidLooks := .later }
def AutomatonBooleanUptoCardSaid : Prop := Claim7.holds Tryz.pinned (.plain (OpenSpec.upto automatonBooleanSpec)) automatonBooleanUptoCard

/-- THE SECOND FORM's CARD OF 'corporalaw20.AutomatonForms'. -/
def automatonFormsUptoCard : Claim7 := { stood := { row := automatonFormsUptoRow, standIns := [], harness := (true, "d34935a9b8014765e5d87ebcbb0b683e7d27abad9f2739a520bb960b14266063"), looks := false }, kinds := [], alts := [], laidByText := true, laidKinds := [.data, .pinned], laidTests := true, laidLooks := .later }
def AutomatonFormsUptoCardSaid : Prop := Claim7.holds Tryz.pinned (.plain (OpenSpec.upto automatonFormsSpec)) automatonFormsUptoCard

/-- THE SECOND FORM's CARD OF 'corporalaw20.AutomatonMorgan'. -/
def automatonMorganUptoCard : Claim7 := { stood := { row := automatonMorganUptoRow, standIns := [], harness := (true, "d34935a9b8014765e5d87ebcbb0b683e7d27abad9f2739a520bb960b14266063"), looks := false }, kinds := [], alts := [], laidByText := true, laidKinds := [.data, .pinned], laidTests := true, laidLooks := .later }
def AutomatonMorganUptoCardSaid : Prop := Claim7.holds Tryz.pinned (.plain (OpenSpec.upto automatonMorganSpec)) automatonMorganUptoCard

/-- THE SECOND FORM's CARD OF 'corporalaw20.AutomatonMeans'. -/
def automatonMeansUptoCard : Claim7 := { stood := { row := automatonMeansUptoRow, standIns := [], harness := (true, "d34935a9b8014765e5d87ebcbb0b683e7d27abad9f2739a520bb960b14266063"), looks := false }, kinds := [], alts := [], laidByText := true, laidKinds := [.data, .pinned], laidTests := true, laidLooks := .later }
def AutomatonMeansUptoCardSaid : Prop := Claim7.holds Tryz.pinned (.plain (OpenSpec.upto automatonMeansSpec)) automatonMeansUptoCard

/-- THE SECOND FORM's CARD OF 'corporalaw20.AutomatonShortest'. -/
def automatonShortestUptoCard : Claim7 := { stood := { row := automatonShortestUptoRow, standIns := [], harness := (true, "d34935a9b8014765e5d87ebcbb0b683e7d27abad9f2739a520bb960b14266063"), looks := false }, kinds := [], alts := [], laidByText := true, laidKinds := [.data, .pinned], laidTests := true, laidLooks := .later }
def AutomatonShortestUptoCardSaid : Prop := Claim7.holds Tryz.pinned (.plain (OpenSpec.upto automatonShortestSpec)) automatonShortestUptoCard

/-- THE SECOND FORM's CARD OF 'corporalaw20.AutomatonDecides'. -/
def automatonDecidesUptoCard : Claim7 := { stood := { row := automatonDecidesUptoRow, standIns := [], harness := (true, "d34935a9b8014765e5d87ebcbb0b683e7d27abad9f2739a520bb960b14266063"), looks := false }, kinds := [], alts := [], laidByText := true, laidKinds := [.data, .pinned], laidTests := true, laidLooks := .later }
def AutomatonDecidesUptoCardSaid : Prop := Claim7.holds Tryz.pinned (.plain (OpenSpec.upto automatonDecidesSpec)) automatonDecidesUptoCard
end Rows
end Go.Proofs.YthdfkabdoidjfaaGreatDoor
