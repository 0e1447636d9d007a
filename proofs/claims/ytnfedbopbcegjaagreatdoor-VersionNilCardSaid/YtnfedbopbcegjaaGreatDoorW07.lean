/- W07. -/
import Derived.Test.YtnfedbopbcegjaaGreatDoorRows
import Derived.ProofKit
namespace Go.Proofs.YtnfedbopbcegjaaGreatDoor
theorem vnl47_a:(Rows.versionNilRow.inPlace == Tryz.checked.prog.inPlace 4)=true:=by kernel_rfl
theorem vnl47_b:(Rows.versionNilRow.unfollowed == Tryz.checked.prog.unfollowed 4)=true:=by kernel_rfl
theorem vnl47_c:(Rows.versionNilRow.recurses == Tryz.checked.prog.recurses 4)=true:=by kernel_rfl
theorem vnl47_d:(Rows.versionNilRow.named == Tryz.checked.prog.varsNamed 4)=true:=by kernel_rfl
end Go.Proofs.YtnfedbopbcegjaaGreatDoor
