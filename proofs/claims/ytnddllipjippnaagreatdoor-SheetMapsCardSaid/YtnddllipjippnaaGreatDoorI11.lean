/- I11: Int7. -/
import Derived.Test.YtnddllipjippnaaGreatDoorI02
namespace Go.Proofs.YtnddllipjippnaaGreatDoor
end Go.Proofs.YtnddllipjippnaaGreatDoor
