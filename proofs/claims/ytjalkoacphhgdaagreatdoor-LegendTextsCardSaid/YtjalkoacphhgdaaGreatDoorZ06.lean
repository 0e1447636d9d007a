/- Z06: LGAJ. -/
import Derived.Test.YtjalkoacphhgdaaGreatDoorRows
import Derived.ProofKit
namespace Go.Proofs.YtjalkoacphhgdaaGreatDoor
theorem Agk:joinedFacts Tryz.checked.prog 4 Tryz.f4 Rows.legendTextsSpec Rows.legendTextsRow=true:=by kernel_rfl
end Go.Proofs.YtjalkoacphhgdaaGreatDoor
