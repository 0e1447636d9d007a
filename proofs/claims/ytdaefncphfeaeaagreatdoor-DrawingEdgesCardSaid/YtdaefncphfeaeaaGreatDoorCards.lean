/-
  DERIVED. GIVEN WITH THE SEED: THE CARDS: each row of YtdaefncphfeaeaaGreatDoorRows.lean that lists a variable, with what it lists TIED to the program's text (the seventh form; the later family's looks); each row that meets fmt, with fmt's text TOLD by the authors' own Lean function (tested against real Go, not proved from fmt's source: count such statements apart). THE CARD IS WHAT COUNTS. Prove the row's statement (the work); the ties are given (YtdaefncphfeaeaaGreatDoorTie.lean); close each card by the builder's one call (the guide's Derived/Test/ToyasCard.lean, 'card_holds'). Laid BY PROGRAM, IN A SANDBOX (cutbox-door.mjs). By AI agents, Wed Nov 11 2026. No macro, syntax, notation, axiom, sorry.
-/
import Derived.Test.YtdaefncphfeaeaaGreatDoorRows
import GoSem.ClaimSeven
namespace Go.Proofs.YtdaefncphfeaeaaGreatDoor
namespace Rows

/-- THE TIED CARD OF 'klippelaw54.DrawingPictures'. -/
def drawingPicturesCard : Claim7 := { stood := { row := drawingPicturesRow, standIns := [], harness := (true, "1caddf7d13eff4caf28d6f9766f237c762b05854193dbb40576d1375fc98d2a5"), looks := true }, kinds := [], alts := [], laidByText := true, laidKinds := [.data, .data, .data, .sentinel, .sentinel], laidTests := true, laidLooks := .later }
def DrawingPicturesCardSaid : Prop := Claim7.holds Tryz.pinned (.plain (OpenSpec.ofChange drawingPicturesSpec)) drawingPicturesCard

/-- THE TIED CARD OF 'klippelaw54.DrawingEdges'. -/
def drawingEdgesCard : Claim7 := { stood := { row := drawingEdgesRow, standIns := [], harness := (true, "1caddf7d13eff4caf28d6f9766f237c762b05854193dbb40576d1375fc98d2a5"), looks := true }, kinds := [], alts := [], laidByText := true, laidKinds := [.data, .data, .data, .sentinel, .sentinel], laidTests := true, laidLooks := .later }
def DrawingEdgesCardSaid : Prop := Claim7.holds Tryz.pinned (.plain (OpenSpec.ofChange drawingEdgesSpec)) drawingEdgesCard

/-- THE SECOND FORM's CARD OF 'klippelaw54.DrawingPictures'. -/
def drawingPicturesUptoCard : Claim7 := { stood := { row := drawingPicturesUptoRow, standIns := [], harness := (true, "1caddf7d13eff4caf28d6f9766f237c762b05854193dbb40576d1375fc98d2a5"), looks := true }, kinds := [], alts := [], laidByText := true, laidKinds := [.data, .data, .data, .sentinel, .sentinel], laidTests := true, laidLooks := .later }
def DrawingPicturesUptoCardSaid : Prop := Claim7.holds Tryz.pinned (.plain (OpenSpec.upto drawingPicturesSpec)) drawingPicturesUptoCard

/-- THE SECOND FORM's CARD OF 'klippelaw54.DrawingEdges'. -/
def drawingEdgesUptoCard : Claim7 := { stood := { row := drawingEdgesUptoRow, standIns := [], harness := (true, "1caddf7d13eff4caf28d6f9766f237c762b05854193dbb40576d1375fc98d2a5"), looks := true }, kinds := [], alts := [], laidByText := true, laidKinds := [.data, .data, .data, .sentinel, .sentinel], laidTests := true, laidLooks := .later }
def DrawingEdgesUptoCardSaid : Prop := Claim7.holds Tryz.pinned (.plain (OpenSpec.upto drawingEdgesSpec)) drawingEdgesUptoCard
end Rows
end Go.Proofs.YtdaefncphfeaeaaGreatDoor
