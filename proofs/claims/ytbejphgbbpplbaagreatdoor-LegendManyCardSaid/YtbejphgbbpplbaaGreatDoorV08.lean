/- V08: LMAJ. -/
import Derived.Test.YtbejphgbbpplbaaGreatDoorV07
namespace Go.Proofs.YtbejphgbbpplbaaGreatDoor
theorem AfV:joinedFacts Tryz.checked.prog 3 Tryz.f3 Rows.legendManySpec Rows.legendManyRow=true:=by
 unfold joinedFacts;rw [Agg,Agh,Agi,Agj]
 kernel_rfl
end Go.Proofs.YtbejphgbbpplbaaGreatDoor
