/- J06: KI7K. -/
import Derived.Test.YtnddllipjippnaaGreatDoorRows
import Derived.ProofKit
namespace Go.Proofs.YtnddllipjippnaaGreatDoor
theorem Akv:(Rows.sheetChecksRow.inPlace == Tryz.checked.prog.inPlace 3)=true:=by kernel_rfl
theorem Akw:(Rows.sheetChecksRow.unfollowed == Tryz.checked.prog.unfollowed 3)=true:=by kernel_rfl
theorem Akx:(Rows.sheetChecksRow.recurses == Tryz.checked.prog.recurses 3)=true:=by kernel_rfl
theorem Aky:(Rows.sheetChecksRow.named == Tryz.checked.prog.varsNamed 3)=true:=by kernel_rfl
end Go.Proofs.YtnddllipjippnaaGreatDoor
