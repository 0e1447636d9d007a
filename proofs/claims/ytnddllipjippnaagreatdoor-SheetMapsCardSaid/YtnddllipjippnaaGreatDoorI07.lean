/- I07: KK5G. -/
import Derived.Test.YtnddllipjippnaaGreatDoorRows
import Derived.ProofKit
import Derived.SevenTiedAt
namespace Go.Proofs.YtnddllipjippnaaGreatDoor
theorem Ao1:false=Rows.sheetMapsRow.goesBy Tryz.pinned.checked.prog:=by kernel_rfl
end Go.Proofs.YtnddllipjippnaaGreatDoor
