/- W08. -/
import Derived.Test.YtnfedbopbcegjaaGreatDoorW07
namespace Go.Proofs.YtnfedbopbcegjaaGreatDoor
theorem Ahx:joinedFacts Tryz.checked.prog 3 Tryz.f3 Rows.versionLimitsSpec Rows.versionLimitsRow=true:=by
 unfold joinedFacts;rw [Ah2,Ah3,Ah4,Ah5]
 kernel_rfl
end Go.Proofs.YtnfedbopbcegjaaGreatDoor
