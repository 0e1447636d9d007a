/- K07: SL20G. -/
import Derived.Test.YtgnejnampofhoaaGreatDoorRows
import Derived.ProofKit
import Derived.SevenTiedAt
namespace Go.Proofs.YtgnejnampofhoaaGreatDoor
theorem Agl:false=Rows.sheetLimitsRow.goesBy Tryz.pinned.checked.prog:=by kernel_rfl
end Go.Proofs.YtgnejnampofhoaaGreatDoor
