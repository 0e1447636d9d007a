/-
  DERIVED. GIVEN WITH THE SEED: THE CARDS: each row of YtbejphgbbpplbaaGreatDoorRows.lean that lists a variable, with what it lists TIED to the program's text (the seventh form; the later family's looks); each row that meets fmt, with fmt's text TOLD by the authors' own Lean function (tested against real Go, not proved from fmt's source: count such statements apart). THE CARD IS WHAT COUNTS. Prove the row's statement (the work); the ties are given (YtbejphgbbpplbaaGreatDoorTie.lean); close each card by the builder's one call (the guide's Derived/Test/ToyasCard.lean, 'card_holds'). Laid BY PROGRAM, IN A SANDBOX (cutbox-door.mjs). By AI agents, Wed Nov 11 2026. No macro, syntax, notation, axiom, sorry.
-/
import Derived.Test.YtbejphgbbpplbaaGreatDoorRows
import GoSem.ClaimSeven
namespace Go.Proofs.YtbejphgbbpplbaaGreatDoor
namespace Rows

/-- THE TIED CARD OF 'klippelaw50.LegendMany'. -/
def legendManyCard : Claim7 := { stood := { row := legendManyRow, standIns := [], harness := (true, "2a394e065e92f1c12816c63cbfb16afb2bc42397f49c55debc8ee159a4d9c362"), looks := true }, kinds := [], alts := [], laidByText := true, laidKinds := [.data, .data, .data, .sentinel, .sentinel], laidTests := true, laidLooks := .later }
def LegendManyCardSaid : Prop := Claim7.holds Tryz.pinned (.plain (OpenSpec.ofChange legendManySpec)) legendManyCard

/-- THE TIED CARD OF 'klippelaw50.LegendCompiles'. -/
def legendCompilesCard : Claim7 := { stood := { row := legendCompilesRow, standIns := [], harness := (true, "2a394e065e92f1c12816c63cbfb16afb2bc42397f49c55debc8ee159a4d9c362"), looks := true }, kinds := [], alts := [], laidByText := true, laidKinds := [.data, .data, .data, .sentinel, .sentinel], laidTests := true, laidLooks := .later }
def LegendCompilesCardSaid : Prop := Claim7.holds Tryz.pinned (.plain (OpenSpec.ofChange legendCompilesSpec)) legendCompilesCard

/-- THE TIED CARD OF 'klippelaw50.LegendUnits'. -/
def legendUnitsCard : Claim7 := { stood := { row := legendUnitsRow, standIns := [], harness := (true, "2a394e065e92f1c12816c63cbfb16afb2bc42397f49c55debc8ee159a4d9c362"), looks := true }, kinds := [], alts := [], laidByText := true, laidKinds := [.data, .data, .data, .sentinel, .sentinel], laidTests := true, laidLooks := .later }
def LegendUnitsCardSaid : Prop := Claim7.holds Tryz.pinned (.plain (OpenSpec.ofChange legendUnitsSpec)) legendUnitsCard

/-- THE TIED CARD OF 'klippelaw50.LegendErrors'. -/
def legendErrorsCard : Claim7 := { stood := { row := legendErrorsRow, standIns := [], harness := (true, "2a394e065e92f1c12816c63cbfb16afb2bc42397f49c55debc8ee159a4d9c362"), looks := true }, kinds := [], alts := [], laidByText := true, laidKinds := [.data, .data, .data, .sentinel, .sentinel], laidTests := true, laidLooks := .later }
def LegendErrorsCardSaid : Prop := Claim7.holds Tryz.pinned (.plain (OpenSpec.ofChange legendErrorsSpec)) legendErrorsCard

/-- THE TIED CARD OF 'klippelaw50.LegendAgrees'. -/
def legendAgreesCard : Claim7 := { stood := { row := legendAgreesRow, standIns := [], harness := (true, "2a394e065e92f1c12816c63cbfb16afb2bc42397f49c55debc8ee159a4d9c362"), looks := true }, kinds := [], alts := [], laidByText := true, laidKinds := [.data, .data, .data, .sentinel, .sentinel], laidTests := true, laidLooks := .later }
def LegendAgreesCardSaid : Prop := Claim7.holds Tryz.pinned (.plain (OpenSpec.ofChange legendAgreesSpec)) legendAgreesCard

/-- THE SECOND FORM's CARD OF 'klippelaw50.LegendMany'. -/
def legendManyUptoCard : Claim7 := { stood := { row := legendManyUptoRow, standIns := [], harness := (true, "2a394e065e92f1c12816c63cbfb16afb2bc42397f49c55debc8ee159a4d9c362"), looks := true }, kinds := [], alts := [], laidByText := true, laidKinds := [.data, .data, .data, .sentinel, .sentinel], laidTests := true, laidLooks := .later }
def LegendManyUptoCardSaid : Prop := Claim7.holds Tryz.pinned (.plain (OpenSpec.upto legendManySpec)) legendManyUptoCard

/-- THE SECOND FORM's CARD OF 'klippelaw50.LegendCompiles'. -/
def legendCompilesUptoCard : Claim7 := { stood := { row := legendCompilesUptoRow, standIns := [], harness := (true, "2a394e065e92f1c12816c63cbfb16afb2bc42397f49c55debc8ee159a4d9c362"), looks := true }, kinds := [], alts := [], laidByText := true, laidKinds := [.data, .data, .data, .sentinel, .sentinel], laidTests := true, laidLooks := .later }
def LegendCompilesUptoCardSaid : Prop := Claim7.holds Tryz.pinned (.plain (OpenSpec.upto legendCompilesSpec)) legendCompilesUptoCard

/-- THE SECOND FORM's CARD OF 'klippelaw50.LegendUnits'. -/
def legendUnitsUptoCard : Claim7 := { stood := { row := legendUnitsUptoRow, standIns := [], harness := (true, "2a394e065e92f1c12816c63cbfb16afb2bc42397f49c55debc8ee159a4d9c362"), looks := true }, kinds := [], alts := [], laidByText := true, laidKinds := [.data, .data, .data, .sentinel, .sentinel], laidTests := true, laidLooks := .later }
def LegendUnitsUptoCardSaid : Prop := Claim7.holds Tryz.pinned (.plain (OpenSpec.upto legendUnitsSpec)) legendUnitsUptoCard

/-- THE SECOND FORM's CARD OF 'klippelaw50.LegendErrors'. -/
def legendErrorsUptoCard : Claim7 := { stood := { row := legendErrorsUptoRow, standIns := [], harness := (true, "2a394e065e92f1c12816c63cbfb16afb2bc42397f49c55debc8ee159a4d9c362"), looks := true }, kinds := [], alts := [], laidByText := true, laidKinds := [.data, .data, .data, .sentinel, .sentinel], laidTests := true, laidLooks := .later }
def LegendErrorsUptoCardSaid : Prop := Claim7.holds Tryz.pinned (.plain (OpenSpec.upto legendErrorsSpec)) legendErrorsUptoCard

/-- THE SECOND FORM's CARD OF 'klippelaw50.LegendAgrees'. -/
def legendAgreesUptoCard : Claim7 := { stood := { row := legendAgreesUptoRow, standIns := [], harness := (true, "2a394e065e92f1c12816c63cbfb16afb2bc42397f49c55debc8ee159a4d9c362"), looks := true }, kinds := [], alts := [], laidByText := true, laidKinds := [.data, .data, .data, .sentinel, .sentinel], laidTests := true, laidLooks := .later }
def LegendAgreesUptoCardSaid : Prop := Claim7.holds Tryz.pinned (.plain (OpenSpec.upto legendAgreesSpec)) legendAgreesUptoCard
end Rows
end Go.Proofs.YtbejphgbbpplbaaGreatDoor
