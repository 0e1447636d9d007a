/- I09: KK5J. -/
import Derived.Test.YtnddllipjippnaaGreatDoorI06
namespace Go.Proofs.YtnddllipjippnaaGreatDoor
theorem Ao0:joinedFacts Tryz.checked.prog 4 Tryz.f4 Rows.sheetMapsSpec Rows.sheetMapsRow=true:=by
 unfold joinedFacts;rw [AoB,AoC,AoD,AoE]
 kernel_rfl
end Go.Proofs.YtnddllipjippnaaGreatDoor
