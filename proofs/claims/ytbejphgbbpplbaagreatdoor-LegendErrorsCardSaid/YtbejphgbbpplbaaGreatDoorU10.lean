/- U10: LEAG. -/
import Derived.Test.YtbejphgbbpplbaaGreatDoorRows
import Derived.ProofKit
import Derived.SevenTiedAt
namespace Go.Proofs.YtbejphgbbpplbaaGreatDoor
theorem Akf:false=Rows.legendErrorsRow.goesBy Tryz.pinned.checked.prog:=by kernel_rfl
end Go.Proofs.YtbejphgbbpplbaaGreatDoor
