/-
  DERIVED. GIVEN WITH THE SEED: THE CARDS: each row of YtkiadfpkgpgbiaaGreatDoorRows.lean that lists a variable, with what it lists TIED to the program's text (the seventh form; the later family's looks); each row that meets fmt, with fmt's text TOLD by the authors' own Lean function (tested against real Go, not proved from fmt's source: count such statements apart). THE CARD IS WHAT COUNTS. Prove the row's statement (the work); the ties are given (YtkiadfpkgpgbiaaGreatDoorTie.lean); close each card by the builder's one call (the guide's Derived/Test/ToyasCard.lean, 'card_holds'). Laid BY PROGRAM, IN A SANDBOX (cutbox-door.mjs). By AI agents, Wed Nov 11 2026. No macro, syntax, notation, axiom, sorry.
-/
import Derived.Test.YtkiadfpkgpgbiaaGreatDoorRows
import GoSem.ClaimSeven
namespace Go.Proofs.YtkiadfpkgpgbiaaGreatDoor
namespace Rows

/-- THE TIED CARD OF 'racewaylaw4.DimacsPrints'. -/
def dimacsPrintsCard : Claim7 := { stood := { row := dimacsPrintsRow, standIns := [], harness := (true, "ed98ea6d4e31a7ef224fb055e2c38b34420ede38d040b9635d9d89e95e3fbad8"), looks := true }, kinds := [], alts := [], laidByText := true, laidKinds := [.data, .data, .data, .data, .sentinel, .sentinel, .pinned], laidTests := true, laidLooks := .later }
def DimacsPrintsCardSaid : Prop := Claim7.holds Tryz.pinned (.plain (OpenSpec.ofChange dimacsPrintsSpec)) dimacsPrintsCard

/-- THE TIED CARD OF 'racewaylaw4.DimacsPlaces'. -/
def dimacsPlacesCard : Claim7 := { stood := { row := dimacsPlacesRow, standIns := [], harness := (true, "ed98ea6d4e31a7ef224fb055e2c38b34420ede38d040b9635d9d89e95e3fbad8"), looks := true }, kinds := [], alts := [], laidByText := true, laidKinds := [.data, .data, .data, .data, .sentinel, .sentinel, .pinned], laidTests := true, laidLooks := .later }
def DimacsPlacesCardSaid : Prop := Claim7.holds Tryz.pinned (.plain (OpenSpec.ofChange dimacsPlacesSpec)) dimacsPlacesCard

/-- THE TIED CARD OF 'racewaylaw4.DimacsBack'. -/
def dimacsBackCard : Claim7 := { stood := { row := dimacsBackRow, standIns := [], harness := (true, "ed98ea6d4e31a7ef224fb055e2c38b34420ede38d040b9635d9d89e95e3fbad8"), looks := true }, kinds := [], alts := [], laidByText := true, laidKinds := [.data, .data, .data, .data, .sentinel, .sentinel, .pinned], laidTests := true, laidLooks := .later }
def DimacsBackCardSaid : Prop := Claim7.holds Tryz.pinned (.plain (OpenSpec.ofChange dimacsBackSpec)) dimacsBackCard

/-- THE TIED CARD OF 'racewaylaw4.DimacsSpaces'. -/
def dimacsSpacesCard : Claim7 := { stood := { row := dimacsSpacesRow, standIns := [], harness := (true, "ed98ea6d4e31a7ef224fb055e2c38b34420ede38d040b9635d9d89e95e3fbad8"), looks := true }, kinds := [], alts := [], laidByText := true, laidKinds := [.data, .data, .data, .data, .sentinel, .sentinel, .pinned], laidTests := true, laidLooks := .later }
def DimacsSpacesCardSaid : Prop := Claim7.holds Tryz.pinned (.plain (OpenSpec.ofChange dimacsSpacesSpec)) dimacsSpacesCard

/-- THE SECOND FORM's CARD OF 'racewaylaw4.DimacsPrints'. -/
def dimacsPrintsUptoCard : Claim7 := { stood := { row := dimacsPrintsUptoRow, standIns := [], harness := (true, "ed98ea6d4e31a7ef224fb055e2c38b34420ede38d040b9635d9d89e95e3fbad8"), looks := true }, kinds := [], alts := [], laidByText := true, laidKinds := [.data, .data, .data, .data, .sentinel, .sentinel, .pinned], laidTests := true, laidLooks := .later }
def DimacsPrintsUptoCardSaid : Prop := Claim7.holds Tryz.pinned (.plain (OpenSpec.upto dimacsPrintsSpec)) dimacsPrintsUptoCard

/-- THE SECOND FORM's CARD OF 'racewaylaw4.DimacsPlaces'. -/
def dimacsPlacesUptoCard : Claim7 := { stood := { row := dimacsPlacesUptoRow, standIns := [], harness := (true, "ed98ea6d4e31a7ef224fb055e2c38b34420ede38d040b9635d9d89e95e3fbad8"), looks := true }, kinds := [], alts := [], laidByText := true, laidKinds := [.data, .data, .data, .data, .sentinel, .sentinel, .pinned], laidTests := true, laidLooks := .later }
def DimacsPlacesUptoCardSaid : Prop := Claim7.holds Tryz.pinned (.plain (OpenSpec.upto dimacsPlacesSpec)) dimacsPlacesUptoCard

/-- THE SECOND FORM's CARD OF 'racewaylaw4.DimacsBack'. -/
def dimacsBackUptoCard : Claim7 := { stood := { row := dimacsBackUptoRow, standIns := [], harness := (true, "ed98ea6d4e31a7ef224fb055e2c38b34420ede38d040b9635d9d89e95e3fbad8"), looks := true }, kinds := [], alts := [], laidByText := true, laidKinds := [.data, .data, .data, .data, .sentinel, .sentinel, .pinned], laidTests := true, laidLooks := .later }
def DimacsBackUptoCardSaid : Prop := Claim7.holds Tryz.pinned (.plain (OpenSpec.upto dimacsBackSpec)) dimacsBackUptoCard

/-- THE SECOND FORM's CARD OF 'racewaylaw4.DimacsSpaces'. -/
def dimacsSpacesUptoCard : Claim7 := { stood := { row := dimacsSpacesUptoRow, standIns := [], harness := (true, "ed98ea6d4e31a7ef224fb055e2c38b34420ede38d040b9635d9d89e95e3fbad8"), looks := true }, kinds := [], alts := [], laidByText := true, laidKinds := [.data, .data, .data, .data, .sentinel, .sentinel, .pinned], laidTests := true, laidLooks := .later }
def DimacsSpacesUptoCardSaid : Prop := Claim7.holds Tryz.pinned (.plain (OpenSpec.upto dimacsSpacesSpec)) dimacsSpacesUptoCard
end Rows
end Go.Proofs.YtkiadfpkgpgbiaaGreatDoor
