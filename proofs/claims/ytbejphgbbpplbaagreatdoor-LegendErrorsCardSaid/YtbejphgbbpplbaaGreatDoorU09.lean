/- U09: LEAJ. -/
import Derived.Test.YtbejphgbbpplbaaGreatDoorU08
namespace Go.Proofs.YtbejphgbbpplbaaGreatDoor
theorem Ake:joinedFacts Tryz.checked.prog 6 Tryz.f6 Rows.legendErrorsSpec Rows.legendErrorsRow=true:=by
 unfold joinedFacts;rw [Aki,Akj,Akk,Akl]
 kernel_rfl
end Go.Proofs.YtbejphgbbpplbaaGreatDoor
