/- I08: LGJ1. -/
import Derived.Test.YtnddllipjippnaaGreatDoorRows
import Derived.ProofKit
import Derived.SevenTiedAt
namespace Go.Proofs.YtnddllipjippnaaGreatDoor
theorem Al3:true=Tryz.pinned.checked.prog.looks []:=by kernel_rfl
end Go.Proofs.YtnddllipjippnaaGreatDoor
