/- Y09: LGCAG. -/
import Derived.Test.YtjalkoacphhgdaaGreatDoorRows
import Derived.ProofKit
import Derived.SevenTiedAt
namespace Go.Proofs.YtjalkoacphhgdaaGreatDoor
theorem AfG:false=Rows.legendChecksRow.goesBy Tryz.pinned.checked.prog:=by kernel_rfl
end Go.Proofs.YtjalkoacphhgdaaGreatDoor
