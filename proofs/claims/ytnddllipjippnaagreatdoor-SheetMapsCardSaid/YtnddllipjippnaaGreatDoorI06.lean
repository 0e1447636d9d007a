/- I06: KK5K. -/
import Derived.Test.YtnddllipjippnaaGreatDoorRows
import Derived.ProofKit
namespace Go.Proofs.YtnddllipjippnaaGreatDoor
theorem AoB:(Rows.sheetMapsRow.inPlace == Tryz.checked.prog.inPlace 4)=true:=by kernel_rfl
theorem AoC:(Rows.sheetMapsRow.unfollowed == Tryz.checked.prog.unfollowed 4)=true:=by kernel_rfl
theorem AoD:(Rows.sheetMapsRow.recurses == Tryz.checked.prog.recurses 4)=true:=by kernel_rfl
theorem AoE:(Rows.sheetMapsRow.named == Tryz.checked.prog.varsNamed 4)=true:=by kernel_rfl
end Go.Proofs.YtnddllipjippnaaGreatDoor
