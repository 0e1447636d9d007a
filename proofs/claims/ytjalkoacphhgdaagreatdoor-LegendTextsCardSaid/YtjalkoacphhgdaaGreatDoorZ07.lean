/- Z07: LGAG. -/
import Derived.Test.YtjalkoacphhgdaaGreatDoorRows
import Derived.ProofKit
import Derived.SevenTiedAt
namespace Go.Proofs.YtjalkoacphhgdaaGreatDoor
theorem Agl:false=Rows.legendTextsRow.goesBy Tryz.pinned.checked.prog:=by kernel_rfl
end Go.Proofs.YtjalkoacphhgdaaGreatDoor
