/-
  DERIVED. GIVEN WITH THE SEED: THE CARDS: each row of YtgnejnampofhoaaGreatDoorRows.lean that lists a variable, with what it lists TIED to the program's text (the seventh form; the later family's looks); each row that meets fmt, with fmt's text TOLD by the authors' own Lean function (tested against real Go, not proved from fmt's source: count such statements apart). THE CARD IS WHAT COUNTS. Prove the row's statement (the work); the ties are given (YtgnejnampofhoaaGreatDoorTie.lean); close each card by the builder's one call (the guide's Derived/Test/ToyasCard.lean, 'card_holds'). Laid BY PROGRAM, IN A SANDBOX (cutbox-door.mjs). By AI agents, Wed Nov 11 2026. No macro, syntax, notation, axiom, sorry.
-/
import Derived.Test.YtgnejnampofhoaaGreatDoorRows
import GoSem.ClaimSeven
namespace Go.Proofs.YtgnejnampofhoaaGreatDoor
namespace Rows

/-- THE TIED CARD OF 'klippelaw46.SheetLimits'. -/
def sheetLimitsCard : Claim7 := { stood := { row := sheetLimitsRow, standIns := [], harness := (true, "cc102229ce94a82fcd59cf0e7aaf928c99bd5c7a0e3acad2b34f04565eb3f831"), looks := true }, kinds := [], alts := [], laidByText := true, laidKinds := [.data, .data, .data, .sentinel, .sentinel], laidTests := true, laidLooks := .later }
def SheetLimitsCardSaid : Prop := Claim7.holds Tryz.pinned (.plain (OpenSpec.ofChange sheetLimitsSpec)) sheetLimitsCard

/-- THE TIED CARD OF 'klippelaw50.LegendCompiles'. -/
def legendCompilesCard : Claim7 := { stood := { row := legendCompilesRow, standIns := [], harness := (true, "cc102229ce94a82fcd59cf0e7aaf928c99bd5c7a0e3acad2b34f04565eb3f831"), looks := true }, kinds := [], alts := [], laidByText := true, laidKinds := [.data, .data, .data, .sentinel, .sentinel], laidTests := true, laidLooks := .later }
def LegendCompilesCardSaid : Prop := Claim7.holds Tryz.pinned (.plain (OpenSpec.ofChange legendCompilesSpec)) legendCompilesCard

/-- THE TIED CARD OF 'klippelaw50.LegendUnits'. -/
def legendUnitsCard : Claim7 := { stood := { row := legendUnitsRow, standIns := [], harness := (true, "cc102229ce94a82fcd59cf0e7aaf928c99bd5c7a0e3acad2b34f04565eb3f831"), looks := true }, kinds := [], alts := [], laidByText := true, laidKinds := [.data, .data, .data, .sentinel, .sentinel], laidTests := true, laidLooks := .later }
def LegendUnitsCardSaid : Prop := Claim7.holds Tryz.pinned (.plain (OpenSpec.ofChange legendUnitsSpec)) legendUnitsCard

/-- THE TIED CARD OF 'klippelaw50.LegendAgrees'. -/
def legendAgreesCard : Claim7 := { stood := { row := legendAgreesRow, standIns := [], harness := (true, "cc102229ce94a82fcd59cf0e7aaf928c99bd5c7a0e3acad2b34f04565eb3f831"), looks := true }, kinds := [], alts := [], laidByText := true, laidKinds := [.data, .data, .data, .sentinel, .sentinel], laidTests := true, laidLooks := .later }
def LegendAgreesCardSaid : Prop := Claim7.holds Tryz.pinned (.plain (OpenSpec.ofChange legendAgreesSpec)) legendAgreesCard

/-- THE SECOND FORM's CARD OF 'klippelaw46.SheetLimits'. -/
def sheetLimitsUptoCard : Claim7 := { stood := { row := sheetLimitsUptoRow, standIns := [], harness := (true, "cc102229ce94a82fcd59cf0e7aaf928c99bd5c7a0e3acad2b34f04565eb3f831"), looks := true }, kinds := [], alts := [], laidByText := true, laidKinds := [.data, .data, .data, .sentinel, .sentinel], laidTests := true, laidLooks := .later }
def SheetLimitsUptoCardSaid : Prop := Claim7.holds Tryz.pinned (.plain (OpenSpec.upto sheetLimitsSpec)) sheetLimitsUptoCard

/-- THE SECOND FORM's CARD OF 'klippelaw50.LegendCompiles'. -/
def legendCompilesUptoCard : Claim7 := { stood := { row := legendCompilesUptoRow, standIns := [], harness := (true, "cc102229ce94a82fcd59cf0e7aaf928c99bd5c7a0e3acad2b34f04565eb3f831"), looks := true }, kinds := [], alts := [], laidByText := true, laidKinds := [.data, .data, .data, .sentinel, .sentinel], laidTests := true, laidLooks := .later }
def LegendCompilesUptoCardSaid : Prop := Claim7.holds Tryz.pinned (.plain (OpenSpec.upto legendCompilesSpec)) legendCompilesUptoCard

/-- THE SECOND FORM's CARD OF 'klippelaw50.LegendUnits'. -/
def legendUnitsUptoCard : Claim7 := { stood := { row := legendUnitsUptoRow, standIns := [], harness := (true, "cc102229ce94a82fcd59cf0e7aaf928c99bd5c7a0e3acad2b34f04565eb3f831"), looks := true }, kinds := [], alts := [], laidByText := true, laidKinds := [.data, .data, .data, .sentinel, .sentinel], laidTests := true, laidLooks := .later }
def LegendUnitsUptoCardSaid : Prop := Claim7.holds Tryz.pinned (.plain (OpenSpec.upto legendUnitsSpec)) legendUnitsUptoCard

/-- THE SECOND FORM's CARD OF 'klippelaw50.LegendAgrees'. -/
def legendAgreesUptoCard : Claim7 := { stood := { row := legendAgreesUptoRow, standIns := [], harness := (true, "cc102229ce94a82fcd59cf0e7aaf928c99bd5c7a0e3acad2b34f04565eb3f831"), looks := true }, kinds := [], alts := [], laidByText := true, laidKinds := [.data, .data, .data, .sentinel, .sentinel], laidTests := true, laidLooks := .later }
def LegendAgreesUptoCardSaid : Prop := Claim7.holds Tryz.pinned (.plain (OpenSpec.upto legendAgreesSpec)) legendAgreesUptoCard
end Rows
end Go.Proofs.YtgnejnampofhoaaGreatDoor
