/-
  DERIVED. GIVEN WITH THE SEED: THE CARDS: each row of YtfgainadfobcfaaGreatDoorRows.lean that lists a variable, with what it lists TIED to the program's text (the seventh form; the later family's looks); each row that meets fmt, with fmt's text TOLD by the authors' own Lean function (tested against real Go, not proved from fmt's source: count such statements apart). THE CARD IS WHAT COUNTS. Prove the row's statement (the work); the ties are given (YtfgainadfobcfaaGreatDoorTie.lean); close each card by the builder's one call (the guide's Derived/Test/ToyasCard.lean, 'card_holds'). Laid BY PROGRAM, IN A SANDBOX (cutbox-door.mjs). By AI agents, Wed Nov 11 2026. No macro, syntax, notation, axiom, sorry.
-/
import Derived.Test.YtfgainadfobcfaaGreatDoorRows
import GoSem.ClaimSeven
namespace Go.Proofs.YtfgainadfobcfaaGreatDoor
namespace Rows

/-- THE TIED CARD OF 'klippelaw54.DrawingTurns'. -/
def drawingTurnsCard : Claim7 := { stood := { row := drawingTurnsRow, standIns := [], harness := (true, "8187332d78a56df04187d7670ca705c52a5802e9eb862a021f23301407c4b4e7"), looks := true }, kinds := [], alts := [], laidByText := true, laidKinds := [.data, .data, .data, .sentinel, .sentinel], laidTests := true, laidLooks := .later }
def DrawingTurnsCardSaid : Prop := Claim7.holds Tryz.pinned (.plain (OpenSpec.ofChange drawingTurnsSpec)) drawingTurnsCard

/-- THE TIED CARD OF 'klippelaw54.DrawingLines'. -/
def drawingLinesCard : Claim7 := { stood := { row := drawingLinesRow, standIns := [], harness := (true, "8187332d78a56df04187d7670ca705c52a5802e9eb862a021f23301407c4b4e7"), looks := true }, kinds := [], alts := [], laidByText := true, laidKinds := [.data, .data, .data, .sentinel, .sentinel], laidTests := true, laidLooks := .later }
def DrawingLinesCardSaid : Prop := Claim7.holds Tryz.pinned (.plain (OpenSpec.ofChange drawingLinesSpec)) drawingLinesCard

/-- THE TIED CARD OF 'klippelaw54.DrawingPaths'. -/
def drawingPathsCard : Claim7 := { stood := { row := drawingPathsRow, standIns := [], harness := (true, "8187332d78a56df04187d7670ca705c52a5802e9eb862a021f23301407c4b4e7"), looks := true }, kinds := [], alts := [], laidByText := true, laidKinds := [.data, .data, .data, .sentinel, .sentinel], laidTests := true, laidLooks := .later }
def DrawingPathsCardSaid : Prop := Claim7.holds Tryz.pinned (.plain (OpenSpec.ofChange drawingPathsSpec)) drawingPathsCard

/-- THE SECOND FORM's CARD OF 'klippelaw54.DrawingTurns'. -/
def drawingTurnsUptoCard : Claim7 := { stood := { row := drawingTurnsUptoRow, standIns := [], harness := (true, "8187332d78a56df04187d7670ca705c52a5802e9eb862a021f23301407c4b4e7"), looks := true }, kinds := [], alts := [], laidByText := true, laidKinds := [.data, .data, .data, .sentinel, .sentinel], laidTests := true, laidLooks := .later }
def DrawingTurnsUptoCardSaid : Prop := Claim7.holds Tryz.pinned (.plain (OpenSpec.upto drawingTurnsSpec)) drawingTurnsUptoCard

/-- THE SECOND FORM's CARD OF 'klippelaw54.DrawingLines'. -/
def drawingLinesUptoCard : Claim7 := { stood := { row := drawingLinesUptoRow, standIns := [], harness := (true, "8187332d78a56df04187d7670ca705c52a5802e9eb862a021f23301407c4b4e7"), looks := true }, kinds := [], alts := [], laidByText := true, laidKinds := [.data, .data, .data, .sentinel, .sentinel], laidTests := true, laidLooks := .later }
def DrawingLinesUptoCardSaid : Prop := Claim7.holds Tryz.pinned (.plain (OpenSpec.upto drawingLinesSpec)) drawingLinesUptoCard

/-- THE SECOND FORM's CARD OF 'klippelaw54.DrawingPaths'. -/
def drawingPathsUptoCard : Claim7 := { stood := { row := drawingPathsUptoRow, standIns := [], harness := (true, "8187332d78a56df04187d7670ca705c52a5802e9eb862a021f23301407c4b4e7"), looks := true }, kinds := [], alts := [], laidByText := true, laidKinds := [.data, .data, .data, .sentinel, .sentinel], laidTests := true, laidLooks := .later }
def DrawingPathsUptoCardSaid : Prop := Claim7.holds Tryz.pinned (.plain (OpenSpec.upto drawingPathsSpec)) drawingPathsUptoCard
end Rows
end Go.Proofs.YtfgainadfobcfaaGreatDoor
