/- V07: LMAK. -/
import Derived.Test.YtbejphgbbpplbaaGreatDoorRows
import Derived.ProofKit
namespace Go.Proofs.YtbejphgbbpplbaaGreatDoor
theorem Agg:(Rows.legendManyRow.inPlace == Tryz.checked.prog.inPlace 3)=true:=by kernel_rfl
theorem Agh:(Rows.legendManyRow.unfollowed == Tryz.checked.prog.unfollowed 3)=true:=by kernel_rfl
theorem Agi:(Rows.legendManyRow.recurses == Tryz.checked.prog.recurses 3)=true:=by kernel_rfl
theorem Agj:(Rows.legendManyRow.named == Tryz.checked.prog.varsNamed 3)=true:=by kernel_rfl
end Go.Proofs.YtbejphgbbpplbaaGreatDoor
