/- X09: LO15G. -/
import Derived.Test.YtjalkoacphhgdaaGreatDoorRows
import Derived.ProofKit
import Derived.SevenTiedAt
namespace Go.Proofs.YtjalkoacphhgdaaGreatDoor
theorem Ajd:false=Rows.legendOrdersRow.goesBy Tryz.pinned.checked.prog:=by kernel_rfl
end Go.Proofs.YtjalkoacphhgdaaGreatDoor
