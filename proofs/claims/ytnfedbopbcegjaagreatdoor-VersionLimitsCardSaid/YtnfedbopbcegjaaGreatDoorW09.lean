/- W09. -/
import Derived.Test.YtnfedbopbcegjaaGreatDoorRows
import Derived.ProofKit
import Derived.SevenTiedAt
namespace Go.Proofs.YtnfedbopbcegjaaGreatDoor
theorem Ahy:false=Rows.versionLimitsRow.goesBy Tryz.pinned.checked.prog:=by kernel_rfl
end Go.Proofs.YtnfedbopbcegjaaGreatDoor
