/-
  DERIVED. GIVEN WITH THE SEED: THE CARDS: each row of YtnddllipjippnaaGreatDoorRows.lean that lists a variable, with what it lists TIED to the program's text (the seventh form; the later family's looks); each row that meets fmt, with fmt's text TOLD by the authors' own Lean function (tested against real Go, not proved from fmt's source: count such statements apart). THE CARD IS WHAT COUNTS. Prove the row's statement (the work); the ties are given (YtnddllipjippnaaGreatDoorTie.lean); close each card by the builder's one call (the guide's Derived/Test/ToyasCard.lean, 'card_holds'). Laid BY PROGRAM, IN A SANDBOX (cutbox-door.mjs). By AI agents, Wed Nov 11 2026. No macro, syntax, notation, axiom, sorry.
-/
import Derived.Test.YtnddllipjippnaaGreatDoorRows
import GoSem.ClaimSeven
namespace Go.Proofs.YtnddllipjippnaaGreatDoor
namespace Rows

/-- THE TIED CARD OF 'klippelaw46.SheetChecks'. -/
def sheetChecksCard : Claim7 := { stood := { row := sheetChecksRow, standIns := [], harness := (true, "48e0eb4d346693da6dcda4d0971d324852c71d1df8a61c58d3724b11998674f5"), looks := true }, kinds := [], alts := [], laidByText := true, laidKinds := [.data, .data, .data, .sentinel, .sentinel], laidTests := true, laidLooks := .later }
def SheetChecksCardSaid : Prop := Claim7.holds Tryz.pinned (.plain (OpenSpec.ofChange sheetChecksSpec)) sheetChecksCard

/-- THE TIED CARD OF 'klippelaw46.SheetMaps'. -/
def sheetMapsCard : Claim7 := { stood := { row := sheetMapsRow, standIns := [], harness := (true, "48e0eb4d346693da6dcda4d0971d324852c71d1df8a61c58d3724b11998674f5"), looks := true }, kinds := [], alts := [], laidByText := true, laidKinds := [.data, .data, .data, .sentinel, .sentinel], laidTests := true, laidLooks := .later }
def SheetMapsCardSaid : Prop := Claim7.holds Tryz.pinned (.plain (OpenSpec.ofChange sheetMapsSpec)) sheetMapsCard

/-- THE TIED CARD OF 'klippelaw46.SheetLimits'. -/
def sheetLimitsCard : Claim7 := { stood := { row := sheetLimitsRow, standIns := [], harness := (true, "48e0eb4d346693da6dcda4d0971d324852c71d1df8a61c58d3724b11998674f5"), looks := true }, kinds := [], alts := [], laidByText := true, laidKinds := [.data, .data, .data, .sentinel, .sentinel], laidTests := true, laidLooks := .later }
def SheetLimitsCardSaid : Prop := Claim7.holds Tryz.pinned (.plain (OpenSpec.ofChange sheetLimitsSpec)) sheetLimitsCard

/-- THE SECOND FORM's CARD OF 'klippelaw46.SheetChecks'. -/
def sheetChecksUptoCard : Claim7 := { stood := { row := sheetChecksUptoRow, standIns := [], harness := (true, "48e0eb4d346693da6dcda4d0971d324852c71d1df8a61c58d3724b11998674f5"), looks := true }, kinds := [], alts := [], laidByText := true, laidKinds := [.data, .data, .data, .sentinel, .sentinel], laidTests := true, laidLooks := .later }
def SheetChecksUptoCardSaid : Prop := Claim7.holds Tryz.pinned (.plain (OpenSpec.upto sheetChecksSpec)) sheetChecksUptoCard

/-- THE SECOND FORM's CARD OF 'klippelaw46.SheetMaps'. -/
def sheetMapsUptoCard : Claim7 := { stood := { row := sheetMapsUptoRow, standIns := [], harness := (true, "48e0eb4d346693da6dcda4d0971d324852c71d1df8a61c58d3724b11998674f5"), looks := true }, kinds := [], alts := [], laidByText := true, laidKinds := [.data, .data, .data, .sentinel, .sentinel], laidTests := true, laidLooks := .later }
def SheetMapsUptoCardSaid : Prop := Claim7.holds Tryz.pinned (.plain (OpenSpec.upto sheetMapsSpec)) sheetMapsUptoCard

/-- THE SECOND FORM's CARD OF 'klippelaw46.SheetLimits'. -/
def sheetLimitsUptoCard : Claim7 := { stood := { row := sheetLimitsUptoRow, standIns := [], harness := (true, "48e0eb4d346693da6dcda4d0971d324852c71d1df8a61c58d3724b11998674f5"), looks := true }, kinds := [], alts := [], laidByText := true, laidKinds := [.data, .data, .data, .sentinel, .sentinel], laidTests := true, laidLooks := .later }
def SheetLimitsUptoCardSaid : Prop := Claim7.holds Tryz.pinned (.plain (OpenSpec.upto sheetLimitsSpec)) sheetLimitsUptoCard
end Rows
end Go.Proofs.YtnddllipjippnaaGreatDoor
