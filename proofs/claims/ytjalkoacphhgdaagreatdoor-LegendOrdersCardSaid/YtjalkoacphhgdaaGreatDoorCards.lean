/-
  DERIVED. GIVEN WITH THE SEED: THE CARDS: each row of YtjalkoacphhgdaaGreatDoorRows.lean that lists a variable, with what it lists TIED to the program's text (the seventh form; the later family's looks); each row that meets fmt, with fmt's text TOLD by the authors' own Lean function (tested against real Go, not proved from fmt's source: count such statements apart). THE CARD IS WHAT COUNTS. Prove the row's statement (the work); the ties are given (YtjalkoacphhgdaaGreatDoorTie.lean); close each card by the builder's one call (the guide's Derived/Test/ToyasCard.lean, 'card_holds'). Laid BY PROGRAM, IN A SANDBOX (cutbox-door.mjs). By AI agents, Wed Nov 11 2026. No macro, syntax, notation, axiom, sorry.
-/
import Derived.Test.YtjalkoacphhgdaaGreatDoorRows
import GoSem.ClaimSeven
namespace Go.Proofs.YtjalkoacphhgdaaGreatDoor
namespace Rows

/-- THE TIED CARD OF 'klippelaw50.LegendMany'. -/
def legendManyCard : Claim7 := { stood := { row := legendManyRow, standIns := [], harness := (true, "56e4cf88326fb5e512d1544700b88b3829c2e61c9bb533ae2bf7c5bf8c850bfe"), looks := true }, kinds := [], alts := [], laidByText := true, laidKinds := [.data, .data, .data, .sentinel, .sentinel], laidTests := true, laidLooks := .later }
def LegendManyCardSaid : Prop := Claim7.holds Tryz.pinned (.plain (OpenSpec.ofChange legendManySpec)) legendManyCard

/-- THE TIED CARD OF 'klippelaw50.LegendTexts'. -/
def legendTextsCard : Claim7 := { stood := { row := legendTextsRow, standIns := [], harness := (true, "56e4cf88326fb5e512d1544700b88b3829c2e61c9bb533ae2bf7c5bf8c850bfe"), looks := true }, kinds := [], alts := [], laidByText := true, laidKinds := [.data, .data, .data, .sentinel, .sentinel], laidTests := true, laidLooks := .later }
def LegendTextsCardSaid : Prop := Claim7.holds Tryz.pinned (.plain (OpenSpec.ofChange legendTextsSpec)) legendTextsCard

/-- THE TIED CARD OF 'klippelaw50.LegendOrders'. -/
def legendOrdersCard : Claim7 := { stood := { row := legendOrdersRow, standIns := [], harness := (true, "56e4cf88326fb5e512d1544700b88b3829c2e61c9bb533ae2bf7c5bf8c850bfe"), looks := true }, kinds := [], alts := [], laidByText := true, laidKinds := [.data, .data, .data, .sentinel, .sentinel], laidTests := true, laidLooks := .later }
def LegendOrdersCardSaid : Prop := Claim7.holds Tryz.pinned (.plain (OpenSpec.ofChange legendOrdersSpec)) legendOrdersCard

/-- THE TIED CARD OF 'klippelaw50.LegendChecks'. -/
def legendChecksCard : Claim7 := { stood := { row := legendChecksRow, standIns := [], harness := (true, "56e4cf88326fb5e512d1544700b88b3829c2e61c9bb533ae2bf7c5bf8c850bfe"), looks := true }, kinds := [], alts := [], laidByText := true, laidKinds := [.data, .data, .data, .sentinel, .sentinel], laidTests := true, laidLooks := .later }
def LegendChecksCardSaid : Prop := Claim7.holds Tryz.pinned (.plain (OpenSpec.ofChange legendChecksSpec)) legendChecksCard

/-- THE TIED CARD OF 'klippelaw50.LegendErrors'. -/
def legendErrorsCard : Claim7 := { stood := { row := legendErrorsRow, standIns := [], harness := (true, "56e4cf88326fb5e512d1544700b88b3829c2e61c9bb533ae2bf7c5bf8c850bfe"), looks := true }, kinds := [], alts := [], laidByText := true, laidKinds := [.data, .data, .data, .sentinel, .sentinel], laidTests := true, laidLooks := .later }
def LegendErrorsCardSaid : Prop := Claim7.holds Tryz.pinned (.plain (OpenSpec.ofChange legendErrorsSpec)) legendErrorsCard

/-- THE SECOND FORM's CARD OF 'klippelaw50.LegendMany'. -/
def legendManyUptoCard : Claim7 := { stood := { row := legendManyUptoRow, standIns := [], harness := (true, "56e4cf88326fb5e512d1544700b88b3829c2e61c9bb533ae2bf7c5bf8c850bfe"), looks := true }, kinds := [], alts := [], laidByText := true, laidKinds := [.data, .data, .data, .sentinel, .sentinel], laidTests := true, laidLooks := .later }
def LegendManyUptoCardSaid : Prop := Claim7.holds Tryz.pinned (.plain (OpenSpec.upto legendManySpec)) legendManyUptoCard

/-- THE SECOND FORM's CARD OF 'klippelaw50.LegendTexts'. -/
def legendTextsUptoCard : Claim7 := { stood := { row := legendTextsUptoRow, standIns := [], harness := (true, "56e4cf88326fb5e512d1544700b88b3829c2e61c9bb533ae2bf7c5bf8c850bfe"), looks := true }, kinds := [], alts := [], laidByText := true, laidKinds := [.data, .data, .data, .sentinel, .sentinel], laidTests := true, laidLooks := .later }
def LegendTextsUptoCardSaid : Prop := Claim7.holds Tryz.pinned (.plain (OpenSpec.upto legendTextsSpec)) legendTextsUptoCard

/-- THE SECOND FORM's CARD OF 'klippelaw50.LegendOrders'. -/
def legendOrdersUptoCard : Claim7 := { stood := { row := legendOrdersUptoRow, standIns := [], harness := (true, "56e4cf88326fb5e512d1544700b88b3829c2e61c9bb533ae2bf7c5bf8c850bfe"), looks := true }, kinds := [], alts := [], laidByText := true, laidKinds := [.data, .data, .data, .sentinel, .sentinel], laidTests := true, laidLooks := .later }
def LegendOrdersUptoCardSaid : Prop := Claim7.holds Tryz.pinned (.plain (OpenSpec.upto legendOrdersSpec)) legendOrdersUptoCard

/-- THE SECOND FORM's CARD OF 'klippelaw50.LegendChecks'. -/
def legendChecksUptoCard : Claim7 := { stood := { row := legendChecksUptoRow, standIns := [], harness := (true, "56e4cf88326fb5e512d1544700b88b3829c2e61c9bb533ae2bf7c5bf8c850bfe"), looks := true }, kinds := [], alts := [], laidByText := true, laidKinds := [.data, .data, .data, .sentinel, .sentinel], laidTests := true, laidLooks := .later }
def LegendChecksUptoCardSaid : Prop := Claim7.holds Tryz.pinned (.plain (OpenSpec.upto legendChecksSpec)) legendChecksUptoCard

/-- THE SECOND FORM's CARD OF 'klippelaw50.LegendErrors'. -/
def legendErrorsUptoCard : Claim7 := { stood := { row := legendErrorsUptoRow, standIns := [], harness := (true, "56e4cf88326fb5e512d1544700b88b3829c2e61c9bb533ae2bf7c5bf8c850bfe"), looks := true }, kinds := [], alts := [], laidByText := true, laidKinds := [.data, .data, .data, .sentinel, .sentinel], laidTests := true, laidLooks := .later }
def LegendErrorsUptoCardSaid : Prop := Claim7.holds Tryz.pinned (.plain (OpenSpec.upto legendErrorsSpec)) legendErrorsUptoCard
end Rows
end Go.Proofs.YtjalkoacphhgdaaGreatDoor
