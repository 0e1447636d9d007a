/- J07: KI7J. -/
import Derived.Test.YtnddllipjippnaaGreatDoorJ06
namespace Go.Proofs.YtnddllipjippnaaGreatDoor
theorem AkJ:joinedFacts Tryz.checked.prog 3 Tryz.f3 Rows.sheetChecksSpec Rows.sheetChecksRow=true:=by
 unfold joinedFacts;rw [Akv,Akw,Akx,Aky]
 kernel_rfl
end Go.Proofs.YtnddllipjippnaaGreatDoor
