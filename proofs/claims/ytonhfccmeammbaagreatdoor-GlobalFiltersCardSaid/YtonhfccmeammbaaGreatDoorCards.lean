/-
  DERIVED. GIVEN WITH THE SEED: THE CARDS: each row of YtonhfccmeammbaaGreatDoorRows.lean that lists a variable, with what it lists TIED to the program's text (the seventh form; the later family's looks); each row that meets fmt, with fmt's text TOLD by the authors' own Lean function (tested against real Go, not proved from fmt's source: count such statements apart). THE CARD IS WHAT COUNTS. Prove the row's statement (the work); the ties are given (YtonhfccmeammbaaGreatDoorTie.lean); close each card by the builder's one call (the guide's Derived/Test/ToyasCard.lean, 'card_holds'). Laid BY PROGRAM, IN A SANDBOX (cutbox-door.mjs). By AI agents, Wed Nov 11 2026. No macro, syntax, notation, axiom, sorry.
-/
import Derived.Test.YtonhfccmeammbaaGreatDoorRows
import GoSem.ClaimSeven
namespace Go.Proofs.YtonhfccmeammbaaGreatDoor
namespace Rows

/-- THE TIED CARD OF 'corporalaw26.GlobalHolds'. -/
def globalHoldsCard : Claim7 := { stood := { row := globalHoldsRow, standIns := [], harness := (true, "14de7d0facb5bdab83b1d23a3f462528c9911fd1f11c7dafb9f15aeb142acafc"), looks := false }, kinds := [], alts := [], laidByText := true, laidKinds := [.data, .pinned], laidTests := true, laidLooks := .later }
def GlobalHoldsCardSaid : Prop := Claim7.holds Tryz.pinned (.plain (OpenSpec.ofChange globalHoldsSpec)) globalHoldsCard

/-- THE TIED CARD OF 'corporalaw26.GlobalUnbound'. -/
def globalUnboundCard : Claim7 := { stood := { row := globalUnboundRow, standIns := [], harness := (true, "14de7d0facb5bdab83b1d23a3f462528c9911fd1f11c7dafb9f15aeb142acafc"), looks := false }, kinds := [], alts := [], laidByText := true, laidKinds := [.data, .pinned], laidTests := true, laidLooks := .later }
def GlobalUnboundCardSaid : Prop := Claim7.holds Tryz.pinned (.plain (OpenSpec.ofChange globalUnboundSpec)) globalUnboundCard

/-- THE TIED CARD OF 'corporalaw26.GlobalOrder'. -/
def globalOrderCard : Claim7 := { stood := { row := globalOrderRow, standIns := [], harness := (true, "14de7d0facb5bdab83b1d23a3f462528c9911fd1f11c7dafb9f15aeb142acafc"), looks := false }, kinds := [], alts := [], laidByText := true, laidKinds := [.data, .pinned], laidTests := true, laidLooks := .later }
def GlobalOrderCardSaid : Prop := Claim7.holds Tryz.pinned (.plain (OpenSpec.ofChange globalOrderSpec)) globalOrderCard

/-- THE TIED CARD OF 'corporalaw26.GlobalFilters'. -/
def globalFiltersCard : Claim7 := { stood := { row := globalFiltersRow, standIns := [], harness := (true, "14de7d0facb5bdab83b1d23a3f462528c9911fd1f11c7dafb9f15aeb142acafc"), looks := false }, kinds := [], alts := [], laidByText := true, laidKinds := [.data, .pinned], laidTests := true, laidLooks := .later }
def GlobalFiltersCardSaid : Prop := Claim7.holds Tryz.pinned (.plain (OpenSpec.ofChange globalFiltersSpec)) globalFiltersCard

/-- THE TIED CARD OF 'corporalaw26.GlobalBoolean'. -/
def globalBooleanCard : Claim7 := { stood := { row := globalBooleanRow, standIns := [], harness := (true, "14de7d0facb5bdab83b1d23a3f462528c9911fd1f11c7dafb9f15aeb142acafc"), looks := false }, kinds := [], alts := [], laidByText := true, laidKinds := [.data, .pinned], laidTests := true, laidLooks := .later }
def GlobalBooleanCardSaid : Prop := Claim7.holds Tryz.pinned (.plain (OpenSpec.ofChange globalBooleanSpec)) globalBooleanCard

/-- THE TIED CARD OF 'corporalaw29.TreerelGlobal'. -/
def treerelGlobalCard : Claim7 := { stood := { row := treerelGlobalRow, standIns := [], harness := (true, "14de7d0facb5bdab83b1d23a3f462528c9911fd1f11c7dafb9f15aeb142acafc"), looks := false }, kinds := [], alts := [], laidByText := true, laidKinds := [.data, .pinned], laidTests := true, laidLooks := .later }
def TreerelGlobalCardSaid : Prop := Claim7.holds Tryz.pinned (.plain (OpenSpec.ofChange treerelGlobalSpec)) treerelGlobalCard

/-- THE SECOND FORM's CARD OF 'corporalaw26.GlobalHolds'. -/
def globalHoldsUptoCard : Claim7 := { stood := { row := globalHoldsUptoRow, standIns := [], harness := (true, "14de7d0facb5bdab83b1d23a3f462528c9911fd1f11c7dafb9f15aeb142acafc"), looks := false }, kinds := [], alts := [], laidByText := true, laidKinds := [.data, .pinned], laidTests := true, laidLooks := .later }
def GlobalHoldsUptoCardSaid : Prop := Claim7.holds Tryz.pinned (.plain (OpenSpec.upto globalHoldsSpec)) globalHoldsUptoCard

/-- THE SECOND FORM's CARD OF 'corporalaw26.GlobalUnbound'. -/
def globalUnboundUptoCard : Claim7 := { stood := { row := globalUnboundUptoRow, standIns := [], harness := (true, "14de7d0facb5bdab83b1d23a3f462528c9911fd1f11c7dafb9f15aeb142acafc"), looks := false }, kinds := [], alts := [], laidByText := true, laidKinds := [.data, .pinned], laidTests := true, laidLooks := .later }
def GlobalUnboundUptoCardSaid : Prop := Claim7.holds Tryz.pinned (.plain (OpenSpec.upto globalUnboundSpec)) globalUnboundUptoCard

/-- THE SECOND FORM's CARD OF 'corporalaw26.GlobalOrder'. -/
def globalOrderUptoCard : Claim7 := { stood := { row := globalOrderUptoRow, standIns := [], harness := (true, "14de7d0facb5bdab83b1d23a3f462528c9911fd1f11c7dafb9f15aeb142acafc"), looks := false }, kinds := [], alts := [], laidByText := true, laidKinds := [.data, .pinned], laidTests := true, laidLooks := .later }
def GlobalOrderUptoCardSaid : Prop := Claim7.holds Tryz.pinned (.plain (OpenSpec.upto globalOrderSpec)) globalOrderUptoCard

/-- THE SECOND FORM's CARD OF 'corporalaw26.GlobalFilters'. -/
def globalFiltersUptoCard : Claim7 := { stood := { row := globalFiltersUptoRow, standIns := [], harness := (true, "14de7d0facb5bdab83b1d23a3f462528c9911fd1f11c7dafb9f15aeb142acafc"), looks := false }, kinds := [], alts := [], laidByText := true, laidKinds := [.data, .pinned], laidTests := true, laidLooks := .later }
def GlobalFiltersUptoCardSaid : Prop := Claim7.holds Tryz.pinned (.plain (OpenSpec.upto globalFiltersSpec)) globalFiltersUptoCard

/-- THE SECOND FORM's CARD OF 'corporalaw26.GlobalBoolean'. -/
def globalBooleanUptoCard : Claim7 := { stood := { row := globalBooleanUptoRow, standIns := [], harness := (true, "14de7d0facb5bdab83b1d23a3f462528c9911fd1f11c7dafb9f15aeb142acafc"), looks := false }, kinds := [], alts := [], laidByText := true, laidKinds := [.data, .pinned], laidTests := true, laidLooks := .later }
def GlobalBooleanUptoCardSaid : Prop := Claim7.holds Tryz.pinned (.plain (OpenSpec.upto globalBooleanSpec)) globalBooleanUptoCard

/-- THE SECOND FORM's CARD OF 'corporalaw29.TreerelGlobal'. -/
def treerelGlobalUptoCard : Claim7 := { stood := { row := treerelGlobalUptoRow, standIns := [], harness := (true, "14de7d0facb5bdab83b1d23a3f462528c9911fd1f11c7dafb9f15aeb142acafc"), looks := false }, kinds := [], alts := [], laidByText := true, laidKinds := [.data, .pinned], laidTests := true, laidLooks := .later }
def TreerelGlobalUptoCardSaid : Prop := Claim7.holds Tryz.pinned (.plain (OpenSpec.upto treerelGlobalSpec)) treerelGlobalUptoCard
end Rows
end Go.Proofs.YtonhfccmeammbaaGreatDoor
