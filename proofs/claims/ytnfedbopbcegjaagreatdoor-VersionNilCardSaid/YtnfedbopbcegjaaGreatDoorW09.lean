/- W09. -/
import Derived.Test.YtnfedbopbcegjaaGreatDoorRows
import Derived.ProofKit
import Derived.SevenTiedAt
namespace Go.Proofs.YtnfedbopbcegjaaGreatDoor
theorem versionNil_goes:false=Rows.versionNilRow.goesBy Tryz.pinned.checked.prog:=by kernel_rfl
end Go.Proofs.YtnfedbopbcegjaaGreatDoor
