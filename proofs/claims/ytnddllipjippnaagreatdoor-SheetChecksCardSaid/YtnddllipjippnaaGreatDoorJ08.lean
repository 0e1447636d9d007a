/- J08: KI7G. -/
import Derived.Test.YtnddllipjippnaaGreatDoorRows
import Derived.ProofKit
import Derived.SevenTiedAt
namespace Go.Proofs.YtnddllipjippnaaGreatDoor
theorem AkK:false=Rows.sheetChecksRow.goesBy Tryz.pinned.checked.prog:=by kernel_rfl
end Go.Proofs.YtnddllipjippnaaGreatDoor
