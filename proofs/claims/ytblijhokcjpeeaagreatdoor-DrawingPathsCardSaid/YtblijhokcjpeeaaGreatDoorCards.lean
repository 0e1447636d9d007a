/-
  DERIVED. GIVEN WITH THE SEED: THE CARDS: each row of YtblijhokcjpeeaaGreatDoorRows.lean that lists a variable, with what it lists TIED to the program's text (the seventh form; the later family's looks); each row that meets fmt, with fmt's text TOLD by the authors' own Lean function (tested against real Go, not proved from fmt's source: count such statements apart). THE CARD IS WHAT COUNTS. Prove the row's statement (the work); the ties are given (YtblijhokcjpeeaaGreatDoorTie.lean); close each card by the builder's one call (the guide's Derived/Test/ToyasCard.lean, 'card_holds'). Laid BY PROGRAM, IN A SANDBOX (cutbox-door.mjs). By AI agents, Wed Nov 11 2026. No macro, syntax, notation, axiom, sorry.
-/
import Derived.Test.YtblijhokcjpeeaaGreatDoorRows
import GoSem.ClaimSeven
namespace Go.Proofs.YtblijhokcjpeeaaGreatDoor
namespace Rows

/-- THE TIED CARD OF 'klippelaw54.DrawingTurns'. -/
def drawingTurnsCard : Claim7 := { stood := { row := drawingTurnsRow, standIns := [], harness := (true, "4371ed9daaa260940ddba149c5455d835b7005ad9b855f8ee9310bc7eab7dede"), looks := true }, kinds := [], alts := [], laidByText := true, laidKinds := [.data, .data, .data, .sentinel, .sentinel], laidTests := true, laidLooks := .later }
def DrawingTurnsCardSaid : Prop := Claim7.holds Tryz.pinned (.plain (OpenSpec.ofChange drawingTurnsSpec)) drawingTurnsCard

/-- THE TIED CARD OF 'klippelaw54.DrawingLines'. -/
def drawingLinesCard : Claim7 := { stood := { row := drawingLinesRow, standIns := [], harness := (true, "4371ed9daaa260940ddba149c5455d835b7005ad9b855f8ee9310bc7eab7dede"), looks := true }, kinds := [], alts := [], laidByText := true, laidKinds := [.data, .data, .data, .sentinel, .sentinel], laidTests := true, laidLooks := .later }
def DrawingLinesCardSaid : Prop := Claim7.holds Tryz.pinned (.plain (OpenSpec.ofChange drawingLinesSpec)) drawingLinesCard

/-- THE TIED CARD OF 'klippelaw54.DrawingPaths'. -/
def drawingPathsCard : Claim7 := { stood := { row := drawingPathsRow, standIns := [], harness := (true, "4371ed9daaa260940ddba149c5455d835b7005ad9b855f8ee9310bc7eab7dede"), looks := true }, kinds := [], alts := [], laidByText := true, laidKinds := [.data, .data, .data, .sentinel, .sentinel], laidTests := true, laidLooks := .later }
def DrawingPathsCardSaid : Prop := Claim7.holds Tryz.pinned (.plain (OpenSpec.ofChange drawingPathsSpec)) drawingPathsCard

/-- THE TIED CARD OF 'klippelaw54.DrawingErrors'. -/
def drawingErrorsCard : Claim7 := { stood := { row := drawingErrorsRow, standIns := [], harness := (true, "4371ed9daaa260940ddba149c5455d835b7005ad9b855f8ee9310bc7eab7dede"), looks := true }, kinds := [], alts := [], laidByText := true, laidKinds := [.data, .data, .data, .sentinel, .sentinel], laidTests := true, laidLooks := .later }
def DrawingErrorsCardSaid : Prop := Claim7.holds Tryz.pinned (.plain (OpenSpec.ofChange drawingErrorsSpec)) drawingErrorsCard

/-- THE SECOND FORM's CARD OF 'klippelaw54.DrawingTurns'. -/
def drawingTurnsUptoCard : Claim7 := { stood := { row := drawingTurnsUptoRow, standIns := [], harness := (true, "4371ed9daaa260940ddba149c5455d835b7005ad9b855f8ee9310bc7eab7dede"), looks := true }, kinds := [], alts := [], laidByText := true, laidKinds := [.data, .data, .data, .sentinel, .sentinel], laidTests := true, laidLooks := .later }
def DrawingTurnsUptoCardSaid : Prop := Claim7.holds Tryz.pinned (.plain (OpenSpec.upto drawingTurnsSpec)) drawingTurnsUptoCard

/-- THE SECOND FORM's CARD OF 'klippelaw54.DrawingLines'. -/
def drawingLinesUptoCard : Claim7 := { stood := { row := drawingLinesUptoRow, standIns := [], harness := (true, "4371ed9daaa260940ddba149c5455d835b7005ad9b855f8ee9310bc7eab7dede"), looks := true }, kinds := [], alts := [], laidByText := true, laidKinds := [.data, .data, .data, .sentinel, .sentinel], laidTests := true, laidLooks := .later }
def DrawingLinesUptoCardSaid : Prop := Claim7.holds Tryz.pinned (.plain (OpenSpec.upto drawingLinesSpec)) drawingLinesUptoCard

/-- THE SECOND FORM's CARD OF 'klippelaw54.DrawingPaths'. -/
def drawingPathsUptoCard : Claim7 := { stood := { row := drawingPathsUptoRow, standIns := [], harness := (true, "4371ed9daaa260940ddba149c5455d835b7005ad9b855f8ee9310bc7eab7dede"), looks := true }, kinds := [], alts := [], laidByText := true, laidKinds := [.data, .data, .data, .sentinel, .sentinel], laidTests := true, laidLooks := .later }
def DrawingPathsUptoCardSaid : Prop := Claim7.holds Tryz.pinned (.plain (OpenSpec.upto drawingPathsSpec)) drawingPathsUptoCard

/-- THE SECOND FORM's CARD OF 'klippelaw54.DrawingErrors'. -/
def drawingErrorsUptoCard : Claim7 := { stood := { row := drawingErrorsUptoRow, standIns := [], harness := (true, "4371ed9daaa260940ddba149c5455d835b7005ad9b855f8ee9310bc7eab7dede"), looks := true }, kinds := [], alts := [], laidByText := true, laidKinds := [.data, .data, .data, .sentinel, .sentinel], laidTests := true, laidLooks := .later }
def DrawingErrorsUptoCardSaid : Prop := Claim7.holds Tryz.pinned (.plain (OpenSpec.upto drawingErrorsSpec)) drawingErrorsUptoCard
end Rows
end Go.Proofs.YtblijhokcjpeeaaGreatDoor
