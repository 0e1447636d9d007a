/- K08: LGJ1. -/
import Derived.Test.YtgnejnampofhoaaGreatDoorRows
import Derived.ProofKit
import Derived.SevenTiedAt
namespace Go.Proofs.YtgnejnampofhoaaGreatDoor
theorem Adv:true=Tryz.pinned.checked.prog.looks []:=by kernel_rfl
end Go.Proofs.YtgnejnampofhoaaGreatDoor
