/-
  DERIVED. GIVEN WITH THE SEED: THE CARDS: each row of YtpbmihpjgjbndaaGreatDoorRows.lean that lists a variable, with what it lists TIED to the program's text (the seventh form; the later family's looks); each row that meets fmt, with fmt's text TOLD by the authors' own Lean function (tested against real Go, not proved from fmt's source: count such statements apart). THE CARD IS WHAT COUNTS. Prove the row's statement (the work); the ties are given (YtpbmihpjgjbndaaGreatDoorTie.lean); close each card by the builder's one call (the guide's Derived/Test/ToyasCard.lean, 'card_holds'). Laid BY PROGRAM, IN A SANDBOX (cutbox-door.mjs). By AI agents, Wed Nov 11 2026. No macro, syntax, notation, axiom, sorry.
-/
import Derived.Test.YtpbmihpjgjbndaaGreatDoorRows
import GoSem.ClaimSeven
namespace Go.Proofs.YtpbmihpjgjbndaaGreatDoor
namespace Rows

/-- THE TIED CARD OF 'racewaylaw19.ReportBack'. -/
def reportBackCard : Claim7 := { stood := { row := reportBackRow, standIns := [], harness := (true, "3ac67ab827957997d99cebf0ffc3c40c79f8a6d0ed52f4bafc003eef10990a0d"), looks := true }, kinds := [], alts := [], laidByText := true, laidKinds := [.data, .data, .data, .data, .sentinel, .sentinel, .pinned], laidTests := true, laidLooks := .later }
def ReportBackCardSaid : Prop := Claim7.holds Tryz.pinned (.plain (OpenSpec.ofChange reportBackSpec)) reportBackCard

/-- THE TIED CARD OF 'racewaylaw19.ReportLines'. -/
def reportLinesCard : Claim7 := { stood := { row := reportLinesRow, standIns := [], harness := (true, "3ac67ab827957997d99cebf0ffc3c40c79f8a6d0ed52f4bafc003eef10990a0d"), looks := true }, kinds := [], alts := [], laidByText := true, laidKinds := [.data, .data, .data, .data, .sentinel, .sentinel, .pinned], laidTests := true, laidLooks := .later }
def ReportLinesCardSaid : Prop := Claim7.holds Tryz.pinned (.plain (OpenSpec.ofChange reportLinesSpec)) reportLinesCard

/-- THE TIED CARD OF 'racewaylaw20.SessionTurns'. -/
def sessionTurnsCard : Claim7 := { stood := { row := sessionTurnsRow, standIns := [], harness := (true, "3ac67ab827957997d99cebf0ffc3c40c79f8a6d0ed52f4bafc003eef10990a0d"), looks := true }, kinds := [], alts := [], laidByText := true, laidKinds := [.data, .data, .data, .data, .sentinel, .sentinel, .pinned], laidTests := true, laidLooks := .later }
def SessionTurnsCardSaid : Prop := Claim7.holds Tryz.pinned (.plain (OpenSpec.ofChange sessionTurnsSpec)) sessionTurnsCard

/-- THE TIED CARD OF 'racewaylaw21.ScriptAsks'. -/
def scriptAsksCard : Claim7 := { stood := { row := scriptAsksRow, standIns := [], harness := (true, "3ac67ab827957997d99cebf0ffc3c40c79f8a6d0ed52f4bafc003eef10990a0d"), looks := true }, kinds := [], alts := [], laidByText := true, laidKinds := [.data, .data, .data, .data, .sentinel, .sentinel, .pinned], laidTests := true, laidLooks := .later }
def ScriptAsksCardSaid : Prop := Claim7.holds Tryz.pinned (.plain (OpenSpec.ofChange scriptAsksSpec)) scriptAsksCard

/-- THE TIED CARD OF 'racewaytop.TopSteps'. -/
def topStepsCard : Claim7 := { stood := { row := topStepsRow, standIns := [], harness := (true, "3ac67ab827957997d99cebf0ffc3c40c79f8a6d0ed52f4bafc003eef10990a0d"), looks := true }, kinds := [], alts := [], laidByText := true, laidKinds := [.data, .data, .data, .data, .sentinel, .sentinel, .pinned], laidTests := true, laidLooks := .later }
def TopStepsCardSaid : Prop := Claim7.holds Tryz.pinned (.plain (OpenSpec.ofChange topStepsSpec)) topStepsCard

/-- THE TIED CARD OF 'racewaytop.TopGreatest'. -/
def topGreatestCard : Claim7 := { stood := { row := topGreatestRow, standIns := [], harness := (true, "3ac67ab827957997d99cebf0ffc3c40c79f8a6d0ed52f4bafc003eef10990a0d"), looks := true }, kinds := [], alts := [], laidByText := true, laidKinds := [.data, .data, .data, .data, .sentinel, .sentinel, .pinned], laidTests := true, laidLooks := .later }
def TopGreatestCardSaid : Prop := Claim7.holds Tryz.pinned (.plain (OpenSpec.ofChange topGreatestSpec)) topGreatestCard

/-- THE TIED CARD OF 'racewaytop.TopTotal'. -/
def topTotalCard : Claim7 := { stood := { row := topTotalRow, standIns := [], harness := (true, "3ac67ab827957997d99cebf0ffc3c40c79f8a6d0ed52f4bafc003eef10990a0d"), looks := true }, kinds := [], alts := [], laidByText := true, laidKinds := [.data, .data, .data, .data, .sentinel, .sentinel, .pinned], laidTests := true, laidLooks := .later }
def TopTotalCardSaid : Prop := Claim7.holds Tryz.pinned (.plain (OpenSpec.ofChange topTotalSpec)) topTotalCard

/-- THE SECOND FORM's CARD OF 'racewaylaw19.ReportBack'. -/
def reportBackUptoCard : Claim7 := { stood := { row := reportBackUptoRow, standIns := [], harness := (true, "3ac67ab827957997d99cebf0ffc3c40c79f8a6d0ed52f4bafc003eef10990a0d"), looks := true }, kinds := [], alts := [], laidByText := true, laidKinds := [.data, .data, .data, .data, .sentinel, .sentinel, .pinned], laidTests := true, laidLooks := .later }
def ReportBackUptoCardSaid : Prop := Claim7.holds Tryz.pinned (.plain (OpenSpec.upto reportBackSpec)) reportBackUptoCard

/-- THE SECOND FORM's CARD OF 'racewaylaw19.ReportLines'. -/
def reportLinesUptoCard : Claim7 := { stood := { row := reportLinesUptoRow, standIns := [], harness := (true, "3ac67ab827957997d99cebf0ffc3c40c79f8a6d0ed52f4bafc003eef10990a0d"), looks := true }, kinds := [], alts := [], laidByText := true, laidKinds := [.data, .data, .data, .data, .sentinel, .sentinel, .pinned], laidTests := true, laidLooks := .later }
def ReportLinesUptoCardSaid : Prop := Claim7.holds Tryz.pinned (.plain (OpenSpec.upto reportLinesSpec)) reportLinesUptoCard

/-- THE SECOND FORM's CARD OF 'racewaylaw20.SessionTurns'. -/
def sessionTurnsUptoCard : Claim7 := { stood := { row := sessionTurnsUptoRow, standIns := [], harness := (true, "3ac67ab827957997d99cebf0ffc3c40c79f8a6d0ed52f4bafc003eef10990a0d"), looks := true }, kinds := [], alts := [], laidByText := true, laidKinds := [.data, .data, .data, .data, .sentinel, .sentinel, .pinned], laidTests := true, laidLooks := .later }
def SessionTurnsUptoCardSaid : Prop := Claim7.holds Tryz.pinned (.plain (OpenSpec.upto sessionTurnsSpec)) sessionTurnsUptoCard

/-- THE SECOND FORM's CARD OF 'racewaylaw21.ScriptAsks'. -/
def scriptAsksUptoCard : Claim7 := { stood := { row := scriptAsksUptoRow, standIns := [], harness := (true, "3ac67ab827957997d99cebf0ffc3c40c79f8a6d0ed52f4bafc003eef10990a0d"), looks := true }, kinds := [], alts := [], laidByText := true, laidKinds := [.data, .data, .data, .data, .sentinel, .sentinel, .pinned], laidTests := true, laidLooks := .later }
def ScriptAsksUptoCardSaid : Prop := Claim7.holds Tryz.pinned (.plain (OpenSpec.upto scriptAsksSpec)) scriptAsksUptoCard

/-- THE SECOND FORM's CARD OF 'racewaytop.TopSteps'. -/
def topStepsUptoCard : Claim7 := { stood := { row := topStepsUptoRow, standIns := [], harness := (true, "3ac67ab827957997d99cebf0ffc3c40c79f8a6d0ed52f4bafc003eef10990a0d"), looks := true }, kinds := [], alts := [], laidByText := true, laidKinds := [.data, .data, .data, .data, .sentinel, .sentinel, .pinned], laidTests := true, laidLooks := .later }
def TopStepsUptoCardSaid : Prop := Claim7.holds Tryz.pinned (.plain (OpenSpec.upto topStepsSpec)) topStepsUptoCard

/-- THE SECOND FORM's CARD OF 'racewaytop.TopGreatest'. -/
def topGreatestUptoCard : Claim7 := { stood := { row := topGreatestUptoRow, standIns := [], harness := (true, "3ac67ab827957997d99cebf0ffc3c40c79f8a6d0ed52f4bafc003eef10990a0d"), looks := true }, kinds := [], alts := [], laidByText := true, laidKinds := [.data, .data, .data, .data, .sentinel, .sentinel, .pinned], laidTests := true, laidLooks := .later }
def TopGreatestUptoCardSaid : Prop := Claim7.holds Tryz.pinned (.plain (OpenSpec.upto topGreatestSpec)) topGreatestUptoCard

/-- THE SECOND FORM's CARD OF 'racewaytop.TopTotal'. -/
def topTotalUptoCard : Claim7 := { stood := { row := topTotalUptoRow, standIns := [], harness := (true, "3ac67ab827957997d99cebf0ffc3c40c79f8a6d0ed52f4bafc003eef10990a0d"), looks := true }, kinds := [], alts := [], laidByText := true, laidKinds := [.data, .data, .data, .data, .sentinel, .sentinel, .pinned], laidTests := true, laidLooks := .later }
def TopTotalUptoCardSaid : Prop := Claim7.holds Tryz.pinned (.plain (OpenSpec.upto topTotalSpec)) topTotalUptoCard
end Rows
end Go.Proofs.YtpbmihpjgjbndaaGreatDoor
