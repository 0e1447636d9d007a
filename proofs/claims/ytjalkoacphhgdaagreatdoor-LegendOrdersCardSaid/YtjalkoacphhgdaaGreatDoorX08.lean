/- X08: LO15J. -/
import Derived.Test.YtjalkoacphhgdaaGreatDoorX07
namespace Go.Proofs.YtjalkoacphhgdaaGreatDoor
theorem Ajc:joinedFacts Tryz.checked.prog 5 Tryz.f5 Rows.legendOrdersSpec Rows.legendOrdersRow=true:=by
 unfold joinedFacts;rw [Ajp,Ajq,Ajr,Ajs]
 kernel_rfl
end Go.Proofs.YtjalkoacphhgdaaGreatDoor
