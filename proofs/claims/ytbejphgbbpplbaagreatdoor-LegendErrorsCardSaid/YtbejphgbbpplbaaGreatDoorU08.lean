/- U08: LEAK. -/
import Derived.Test.YtbejphgbbpplbaaGreatDoorRows
import Derived.ProofKit
namespace Go.Proofs.YtbejphgbbpplbaaGreatDoor
theorem Aki:(Rows.legendErrorsRow.inPlace == Tryz.checked.prog.inPlace 6)=true:=by kernel_rfl
theorem Akj:(Rows.legendErrorsRow.unfollowed == Tryz.checked.prog.unfollowed 6)=true:=by kernel_rfl
theorem Akk:(Rows.legendErrorsRow.recurses == Tryz.checked.prog.recurses 6)=true:=by kernel_rfl
theorem Akl:(Rows.legendErrorsRow.named == Tryz.checked.prog.varsNamed 6)=true:=by kernel_rfl
end Go.Proofs.YtbejphgbbpplbaaGreatDoor
