/-
  DERIVED. GIVEN WITH THE SEED: THE CARDS: each row of YtkiadfpkgpgbiaaDoorRows.lean that lists a variable, with what it lists TIED to the program's text (the seventh form; the later family's looks); each row that meets fmt, with fmt's text TOLD by the authors' own Lean function (tested against real Go, not proved from fmt's source: count such statements apart). THE CARD IS WHAT COUNTS. Prove the row's statement (the work); the ties are given (YtkiadfpkgpgbiaaDoorTie.lean); close each card by the builder's one call (the guide's Derived/Test/ToyasCard.lean, 'card_holds'). Laid BY PROGRAM, IN A SANDBOX (cutbox-door.mjs). By AI agents, Wed Nov 11 2026. No macro, syntax, notation, axiom, sorry.
-/
import Derived.Test.YtkiadfpkgpgbiaaDoorRows
import GoSem.ClaimSeven
namespace Go.Proofs.YtkiadfpkgpgbiaaDoor
namespace Rows

/-- THE TIED CARD OF 'racewaylaw2.TextBounds'. -/
def textBoundsCard : Claim7 := { stood := { row := textBoundsRow, standIns := [], harness := (true, "6e7b0d70379c716e2dfd8f2363856f19781c6a8ed12cfa4019ddf4628a39d01e"), looks := true }, kinds := [], alts := [], laidByText := true, laidKinds := [.data, .data, .data, .data, .sentinel, .sentinel, .pinned], laidTests := true, laidLooks := .later }
def TextBoundsCardSaid : Prop := Claim7.holds Tryd.pinned (.plain (OpenSpec.ofChange textBoundsSpec)) textBoundsCard

/-- THE TIED CARD OF 'racewaylaw2.TextCounts'. -/
def textCountsCard : Claim7 := { stood := { row := textCountsRow, standIns := [], harness := (true, "6e7b0d70379c716e2dfd8f2363856f19781c6a8ed12cfa4019ddf4628a39d01e"), looks := true }, kinds := [], alts := [], laidByText := true, laidKinds := [.data, .data, .data, .data, .sentinel, .sentinel, .pinned], laidTests := true, laidLooks := .later }
def TextCountsCardSaid : Prop := Claim7.holds Tryd.pinned (.plain (OpenSpec.ofChange textCountsSpec)) textCountsCard

/-- THE TIED CARD OF 'racewaylaw2.TextOrder'. -/
def textOrderCard : Claim7 := { stood := { row := textOrderRow, standIns := [], harness := (true, "6e7b0d70379c716e2dfd8f2363856f19781c6a8ed12cfa4019ddf4628a39d01e"), looks := true }, kinds := [], alts := [], laidByText := true, laidKinds := [.data, .data, .data, .data, .sentinel, .sentinel, .pinned], laidTests := true, laidLooks := .later }
def TextOrderCardSaid : Prop := Claim7.holds Tryd.pinned (.plain (OpenSpec.ofChange textOrderSpec)) textOrderCard

/-- THE TIED CARD OF 'racewaylaw2.TextJoins'. -/
def textJoinsCard : Claim7 := { stood := { row := textJoinsRow, standIns := [], harness := (true, "6e7b0d70379c716e2dfd8f2363856f19781c6a8ed12cfa4019ddf4628a39d01e"), looks := true }, kinds := [], alts := [], laidByText := true, laidKinds := [.data, .data, .data, .data, .sentinel, .sentinel, .pinned], laidTests := true, laidLooks := .later }
def TextJoinsCardSaid : Prop := Claim7.holds Tryd.pinned (.plain (OpenSpec.ofChange textJoinsSpec)) textJoinsCard

/-- THE TIED CARD OF 'racewaylaw4.DimacsSums'. -/
def dimacsSumsCard : Claim7 := { stood := { row := dimacsSumsRow, standIns := [], harness := (true, "6e7b0d70379c716e2dfd8f2363856f19781c6a8ed12cfa4019ddf4628a39d01e"), looks := true }, kinds := [], alts := [], laidByText := true, laidKinds := [.data, .data, .data, .data, .sentinel, .sentinel, .pinned], laidTests := true, laidLooks := .later }
def DimacsSumsCardSaid : Prop := Claim7.holds Tryd.pinned (.plain (OpenSpec.ofChange dimacsSumsSpec)) dimacsSumsCard

/-- THE SECOND FORM's CARD OF 'racewaylaw2.TextBounds'. -/
def textBoundsUptoCard : Claim7 := { stood := { row := textBoundsUptoRow, standIns := [], harness := (true, "6e7b0d70379c716e2dfd8f2363856f19781c6a8ed12cfa4019ddf4628a39d01e"), looks := true }, kinds := [], alts := [], laidByText := true, laidKinds := [.data, .data, .data, .data, .sentinel, .sentinel, .pinned], laidTests := true, laidLooks := .later }
def TextBoundsUptoCardSaid : Prop := Claim7.holds Tryd.pinned (.plain (OpenSpec.upto textBoundsSpec)) textBoundsUptoCard

/-- THE SECOND FORM's CARD OF 'racewaylaw2.TextCounts'. -/
def textCountsUptoCard : Claim7 := { stood := { row := textCountsUptoRow, standIns := [], harness := (true, "6e7b0d70379c716e2dfd8f2363856f19781c6a8ed12cfa4019ddf4628a39d01e"), looks := true }, kinds := [], alts := [], laidByText := true, laidKinds := [.data, .data, .data, .data, .sentinel, .sentinel, .pinned], laidTests := true, laidLooks := .later }
def TextCountsUptoCardSaid : Prop := Claim7.holds Tryd.pinned (.plain (OpenSpec.upto textCountsSpec)) textCountsUptoCard

/-- THE SECOND FORM's CARD OF 'racewaylaw2.TextOrder'. -/
def textOrderUptoCard : Claim7 := { stood := { row := textOrderUptoRow, standIns := [], harness := (true, "6e7b0d70379c716e2dfd8f2363856f19781c6a8ed12cfa4019ddf4628a39d01e"), looks := true }, kinds := [], alts := [], laidByText := true, laidKinds := [.data, .data, .data, .data, .sentinel, .sentinel, .pinned], laidTests := true, laidLooks := .later }
def TextOrderUptoCardSaid : Prop := Claim7.holds Tryd.pinned (.plain (OpenSpec.upto textOrderSpec)) textOrderUptoCard

/-- THE SECOND FORM's CARD OF 'racewaylaw2.TextJoins'. -/
def textJoinsUptoCard : Claim7 := { stood := { row := textJoinsUptoRow, standIns := [], harness := (true, "6e7b0d70379c716e2dfd8f2363856f19781c6a8ed12cfa4019ddf4628a39d01e"), looks := true }, kinds := [], alts := [], laidByText := true, laidKinds := [.data, .data, .data, .data, .sentinel, .sentinel, .pinned], laidTests := true, laidLooks := .later }
def TextJoinsUptoCardSaid : Prop := Claim7.holds Tryd.pinned (.plain (OpenSpec.upto textJoinsSpec)) textJoinsUptoCard

/-- THE SECOND FORM's CARD OF 'racewaylaw4.DimacsSums'. -/
def dimacsSumsUptoCard : Claim7 := { stood := { row := dimacsSumsUptoRow, standIns := [], harness := (true, "6e7b0d70379c716e2dfd8f2363856f19781c6a8ed12cfa4019ddf4628a39d01e"), looks := true }, kinds := [], alts := [], laidByText := true, laidKinds := [.data, .data, .data, .data, .sentinel, .sentinel, .pinned], laidTests := true, laidLooks := .later }
def DimacsSumsUptoCardSaid : Prop := Claim7.holds Tryd.pinned (.plain (OpenSpec.upto dimacsSumsSpec)) dimacsSumsUptoCard
end Rows
end Go.Proofs.YtkiadfpkgpgbiaaDoor
