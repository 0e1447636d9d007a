/-
  DERIVED. GIVEN WITH THE SEED: THE CARDS: each row of YtnfedbopbcegjaaGreatDoorRows.lean that lists a variable, with what it lists TIED to the program's text (the seventh form; the later family's looks); each row that meets fmt, with fmt's text TOLD by the authors' own Lean function (tested against real Go, not proved from fmt's source: count such statements apart). THE CARD IS WHAT COUNTS. Prove the row's statement (the work); the ties are given (YtnfedbopbcegjaaGreatDoorTie.lean); close each card by the builder's one call (the guide's Derived/Test/ToyasCard.lean, 'card_holds'). Laid BY PROGRAM, IN A SANDBOX (cutbox-door.mjs). By AI agents, Wed Nov 11 2026. No macro, syntax, notation, axiom, sorry.
-/
import Derived.Test.YtnfedbopbcegjaaGreatDoorRows
import GoSem.ClaimSeven
namespace Go.Proofs.YtnfedbopbcegjaaGreatDoor
namespace Rows

/-- THE TIED CARD OF 'klippelaw47.VersionLimits'. -/
def versionLimitsCard : Claim7 := { stood := { row := versionLimitsRow, standIns := [], harness := (true, "9ad3f0d68d6bb8f4370ab1eb9c9ad734248ecfa57899651914af405a8e365d92"), looks := true }, kinds := [], alts := [], laidByText := true, laidKinds := [.data, .data, .data, .sentinel, .sentinel], laidTests := true, laidLooks := .later }
def VersionLimitsCardSaid : Prop := Claim7.holds Tryz.pinned (.plain (OpenSpec.ofChange versionLimitsSpec)) versionLimitsCard

/-- THE TIED CARD OF 'klippelaw47.VersionNil'. -/
def versionNilCard : Claim7 := { stood := { row := versionNilRow, standIns := [], harness := (true, "9ad3f0d68d6bb8f4370ab1eb9c9ad734248ecfa57899651914af405a8e365d92"), looks := true }, kinds := [], alts := [], laidByText := true, laidKinds := [.data, .data, .data, .sentinel, .sentinel], laidTests := true, laidLooks := .later }
def VersionNilCardSaid : Prop := Claim7.holds Tryz.pinned (.plain (OpenSpec.ofChange versionNilSpec)) versionNilCard

/-- THE SECOND FORM's CARD OF 'klippelaw47.VersionLimits'. -/
def versionLimitsUptoCard : Claim7 := { stood := { row := versionLimitsUptoRow, standIns := [], harness := (true, "9ad3f0d68d6bb8f4370ab1eb9c9ad734248ecfa57899651914af405a8e365d92"), looks := true }, kinds := [], alts := [], laidByText := true, laidKinds := [.data, .data, .data, .sentinel, .sentinel], laidTests := true, laidLooks := .later }
def VersionLimitsUptoCardSaid : Prop := Claim7.holds Tryz.pinned (.plain (OpenSpec.upto versionLimitsSpec)) versionLimitsUptoCard

/-- THE SECOND FORM's CARD OF 'klippelaw47.VersionNil'. -/
def versionNilUptoCard : Claim7 := { stood := { row := versionNilUptoRow, standIns := [], harness := (true, "9ad3f0d68d6bb8f4370ab1eb9c9ad734248ecfa57899651914af405a8e365d92"), looks := true }, kinds := [], alts := [], laidByText := true, laidKinds := [.data, .data, .data, .sentinel, .sentinel], laidTests := true, laidLooks := .later }
def VersionNilUptoCardSaid : Prop := Claim7.holds Tryz.pinned (.plain (OpenSpec.upto versionNilSpec)) versionNilUptoCard
end Rows
end Go.Proofs.YtnfedbopbcegjaaGreatDoor
