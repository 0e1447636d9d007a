/- K06: SL20K. -/
import Derived.Test.YtgnejnampofhoaaGreatDoorRows
import Derived.ProofKit
namespace Go.Proofs.YtgnejnampofhoaaGreatDoor
theorem Agr:(Rows.sheetLimitsRow.inPlace == Tryz.checked.prog.inPlace 3)=true:=by kernel_rfl
theorem Ags:(Rows.sheetLimitsRow.unfollowed == Tryz.checked.prog.unfollowed 3)=true:=by kernel_rfl
theorem Agt:(Rows.sheetLimitsRow.recurses == Tryz.checked.prog.recurses 3)=true:=by kernel_rfl
theorem Agu:(Rows.sheetLimitsRow.named == Tryz.checked.prog.varsNamed 3)=true:=by kernel_rfl
end Go.Proofs.YtgnejnampofhoaaGreatDoor
