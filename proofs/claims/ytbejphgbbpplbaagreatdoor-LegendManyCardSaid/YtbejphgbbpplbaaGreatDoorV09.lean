/- V09: LMAG. -/
import Derived.Test.YtbejphgbbpplbaaGreatDoorRows
import Derived.ProofKit
import Derived.SevenTiedAt
namespace Go.Proofs.YtbejphgbbpplbaaGreatDoor
theorem AfW:false=Rows.legendManyRow.goesBy Tryz.pinned.checked.prog:=by kernel_rfl
end Go.Proofs.YtbejphgbbpplbaaGreatDoor
