/- X07: LO15K. -/
import Derived.Test.YtjalkoacphhgdaaGreatDoorRows
import Derived.ProofKit
namespace Go.Proofs.YtjalkoacphhgdaaGreatDoor
theorem Ajp:(Rows.legendOrdersRow.inPlace == Tryz.checked.prog.inPlace 5)=true:=by kernel_rfl
theorem Ajq:(Rows.legendOrdersRow.unfollowed == Tryz.checked.prog.unfollowed 5)=true:=by kernel_rfl
theorem Ajr:(Rows.legendOrdersRow.recurses == Tryz.checked.prog.recurses 5)=true:=by kernel_rfl
theorem Ajs:(Rows.legendOrdersRow.named == Tryz.checked.prog.varsNamed 5)=true:=by kernel_rfl
end Go.Proofs.YtjalkoacphhgdaaGreatDoor
