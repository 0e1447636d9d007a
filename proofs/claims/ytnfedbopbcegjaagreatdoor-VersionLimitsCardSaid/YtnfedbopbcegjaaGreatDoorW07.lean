/- W07. -/
import Derived.Test.YtnfedbopbcegjaaGreatDoorRows
import Derived.ProofKit
namespace Go.Proofs.YtnfedbopbcegjaaGreatDoor
theorem Ah2:(Rows.versionLimitsRow.inPlace == Tryz.checked.prog.inPlace 3)=true:=by kernel_rfl
theorem Ah3:(Rows.versionLimitsRow.unfollowed == Tryz.checked.prog.unfollowed 3)=true:=by kernel_rfl
theorem Ah4:(Rows.versionLimitsRow.recurses == Tryz.checked.prog.recurses 3)=true:=by kernel_rfl
theorem Ah5:(Rows.versionLimitsRow.named == Tryz.checked.prog.varsNamed 3)=true:=by kernel_rfl
end Go.Proofs.YtnfedbopbcegjaaGreatDoor
