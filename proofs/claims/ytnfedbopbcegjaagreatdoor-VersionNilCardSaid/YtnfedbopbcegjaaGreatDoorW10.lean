/- W10. -/
import Derived.Test.YtnfedbopbcegjaaGreatDoorRows
import Derived.SevenTiedAt
import Derived.Test.YtnfedbopbcegjaaGreatDoorW05
namespace Go.Proofs.YtnfedbopbcegjaaGreatDoor
theorem Aeb:true=Tryz.pinned.checked.prog.looks []:=by kernel_rfl
end Go.Proofs.YtnfedbopbcegjaaGreatDoor
