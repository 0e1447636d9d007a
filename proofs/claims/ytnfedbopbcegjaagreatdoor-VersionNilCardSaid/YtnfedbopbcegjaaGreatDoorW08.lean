/- W08. -/
import Derived.Test.YtnfedbopbcegjaaGreatDoorW07
namespace Go.Proofs.YtnfedbopbcegjaaGreatDoor
theorem versionNil_closed:joinedFacts Tryz.checked.prog 4 Tryz.f4 Rows.versionNilSpec Rows.versionNilRow=true:=by
 unfold joinedFacts;rw [vnl47_a,vnl47_b,vnl47_c,vnl47_d]
 kernel_rfl
end Go.Proofs.YtnfedbopbcegjaaGreatDoor
