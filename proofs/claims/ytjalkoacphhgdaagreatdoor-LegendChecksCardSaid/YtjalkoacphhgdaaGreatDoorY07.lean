/- Y07: LGCAK. -/
import Derived.Test.YtjalkoacphhgdaaGreatDoorRows
import Derived.ProofKit
namespace Go.Proofs.YtjalkoacphhgdaaGreatDoor
theorem Af9:(Rows.legendChecksRow.inPlace == Tryz.checked.prog.inPlace 6)=true:=by kernel_rfl
theorem AfA:(Rows.legendChecksRow.unfollowed == Tryz.checked.prog.unfollowed 6)=true:=by kernel_rfl
theorem AfB:(Rows.legendChecksRow.recurses == Tryz.checked.prog.recurses 6)=true:=by kernel_rfl
theorem AfC:(Rows.legendChecksRow.named == Tryz.checked.prog.varsNamed 6)=true:=by kernel_rfl
end Go.Proofs.YtjalkoacphhgdaaGreatDoor
