/- K09: SL20J. -/
import Derived.Test.YtgnejnampofhoaaGreatDoorK06
namespace Go.Proofs.YtgnejnampofhoaaGreatDoor
theorem Agk:joinedFacts Tryz.checked.prog 3 Tryz.f3 Rows.sheetLimitsSpec Rows.sheetLimitsRow=true:=by
 unfold joinedFacts;rw [Agr,Ags,Agt,Agu]
 kernel_rfl
end Go.Proofs.YtgnejnampofhoaaGreatDoor
