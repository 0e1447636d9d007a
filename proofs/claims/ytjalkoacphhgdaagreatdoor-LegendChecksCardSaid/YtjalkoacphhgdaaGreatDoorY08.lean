/- Y08: LGCAJ. -/
import Derived.Test.YtjalkoacphhgdaaGreatDoorY07
namespace Go.Proofs.YtjalkoacphhgdaaGreatDoor
theorem AfF:joinedFacts Tryz.checked.prog 6 Tryz.f6 Rows.legendChecksSpec Rows.legendChecksRow=true:=by
 unfold joinedFacts;rw [Af9,AfA,AfB,AfC]
 kernel_rfl
end Go.Proofs.YtjalkoacphhgdaaGreatDoor
