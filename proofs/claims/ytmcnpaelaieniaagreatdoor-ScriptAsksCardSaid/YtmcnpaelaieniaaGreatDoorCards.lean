/-
  DERIVED. GIVEN WITH THE SEED: THE CARDS: each row of YtmcnpaelaieniaaGreatDoorRows.lean that lists a variable, with what it lists TIED to the program's text (the seventh form; the later family's looks); each row that meets fmt, with fmt's text TOLD by the authors' own Lean function (tested against real Go, not proved from fmt's source: count such statements apart). THE CARD IS WHAT COUNTS. Prove the row's statement (the work); the ties are given (YtmcnpaelaieniaaGreatDoorTie.lean); close each card by the builder's one call (the guide's Derived/Test/ToyasCard.lean, 'card_holds'). Laid BY PROGRAM, IN A SANDBOX (cutbox-door.mjs). By AI agents, Wed Nov 11 2026. No macro, syntax, notation, axiom, sorry.
-/
import Derived.Test.YtmcnpaelaieniaaGreatDoorRows
import GoSem.ClaimSeven
namespace Go.Proofs.YtmcnpaelaieniaaGreatDoor
namespace Rows

/-- THE TIED CARD OF 'racewaylaw21.ScriptAsks'. -/
def scriptAsksCard : Claim7 := { stood := { row := scriptAsksRow, standIns := [], harness := (true, "264326dbcdb237c58774313c379733e53d1558310c905e46e05eb71de1dd1144"), looks := true }, kinds := [], alts := [], laidByText := true, laidKinds := [.data, .data, .data, .data, .sentinel, .sentinel, .pinned], laidTests := true, laidLooks := .later }
def ScriptAsksCardSaid : Prop := Claim7.holds Tryz.pinned (.plain (OpenSpec.ofChange scriptAsksSpec)) scriptAsksCard

/-- THE TIED CARD OF 'racewaytop.TopSteps'. -/
def topStepsCard : Claim7 := { stood := { row := topStepsRow, standIns := [], harness := (true, "264326dbcdb237c58774313c379733e53d1558310c905e46e05eb71de1dd1144"), looks := true }, kinds := [], alts := [], laidByText := true, laidKinds := [.data, .data, .data, .data, .sentinel, .sentinel, .pinned], laidTests := true, laidLooks := .later }
def TopStepsCardSaid : Prop := Claim7.holds Tryz.pinned (.plain (OpenSpec.ofChange topStepsSpec)) topStepsCard

/-- THE TIED CARD OF 'racewaytop.TopGreatest'. -/
def topGreatestCard : Claim7 := { stood := { row := topGreatestRow, standIns := [], harness := (true, "264326dbcdb237c58774313c379733e53d1558310c905e46e05eb71de1dd1144"), looks := true }, kinds := [], alts := [], laidByText := true, laidKinds := [.data, .data, .data, .data, .sentinel, .sentinel, .pinned], laidTests := true, laidLooks := .later }
def TopGreatestCardSaid : Prop := Claim7.holds Tryz.pinned (.plain (OpenSpec.ofChange topGreatestSpec)) topGreatestCard

/-- THE TIED CARD OF 'racewaytop.TopTotal'. -/
def topTotalCard : Claim7 := { stood := { row := topTotalRow, standIns := [], harness := (true, "264326dbcdb237c58774313c379733e53d1558310c905e46e05eb71de1dd1144"), looks := true }, kinds := [], alts := [], laidByText := true, laidKinds := [.data, .data, .data, .data, .sentinel, .sentinel, .pinned], laidTests := true, laidLooks := .later }
def TopTotalCardSaid : Prop := Claim7.holds Tryz.pinned (.plain (OpenSpec.ofChange topTotalSpec)) topTotalCard

/-- THE SECOND FORM's CARD OF 'racewaylaw21.ScriptAsks'. -/
def scriptAsksUptoCard : Claim7 := { stood := { row := scriptAsksUptoRow, standIns := [], harness := (true, "264326dbcdb237c58774313c379733e53d1558310c905e46e05eb71de1dd1144"), looks := true }, kinds := [], alts := [], laidByText := true, laidKinds := [.data, .data, .data, .data, .sentinel, .sentinel, .pinned], laidTests := true, laidLooks := .later }
def ScriptAsksUptoCardSaid : Prop := Claim7.holds Tryz.pinned (.plain (OpenSpec.upto scriptAsksSpec)) scriptAsksUptoCard

/-- THE SECOND FORM's CARD OF 'racewaytop.TopSteps'. -/
def topStepsUptoCard : Claim7 := { stood := { row := topStepsUptoRow, standIns := [], harness := (true, "264326dbcdb237c58774313c379733e53d1558310c905e46e05eb71de1dd1144"), looks := true }, kinds := [], alts := [], laidByText := true, laidKinds := [.data, .data, .data, .data, .sentinel, .sentinel, .pinned], laidTests := true, laidLooks := .later }
def TopStepsUptoCardSaid : Prop := Claim7.holds Tryz.pinned (.plain (OpenSpec.upto topStepsSpec)) topStepsUptoCard

/-- THE SECOND FORM's CARD OF 'racewaytop.TopGreatest'. -/
def topGreatestUptoCard : Claim7 := { stood := { row := topGreatestUptoRow, standIns := [], harness := (true, "264326dbcdb237c58774313c379733e53d1558310c905e46e05eb71de1dd1144"), looks := true }, kinds := [], alts := [], laidByText := true, laidKinds := [.data, .data, .data, .data, .sentinel, .sentinel, .pinned], laidTests := true, laidLooks := .later }
def TopGreatestUptoCardSaid : Prop := Claim7.holds Tryz.pinned (.plain (OpenSpec.upto topGreatestSpec)) topGreatestUptoCard

/-- THE SECOND FORM's CARD OF 'racewaytop.TopTotal'. -/
def topTotalUptoCard : Claim7 := { stood := { row := topTotalUptoRow, standIns := [], harness := (true, "264326dbcdb237c58774313c379733e53d1558310c905e46e05eb71de1dd1144"), looks := true }, kinds := [], alts := [], laidByText := true, laidKinds := [.data, .data, .data, .data, .sentinel, .sentinel, .pinned], laidTests := true, laidLooks := .later }
def TopTotalUptoCardSaid : Prop := Claim7.holds Tryz.pinned (.plain (OpenSpec.upto topTotalSpec)) topTotalUptoCard
end Rows
end Go.Proofs.YtmcnpaelaieniaaGreatDoor
