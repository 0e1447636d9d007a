/- J16: E7 E8. -/
import Derived.Test.YtnddllipjippnaaGreatDoorJ11
import Derived.Test.YtnddllipjippnaaGreatDoorJ15
namespace Go.Proofs.YtnddllipjippnaaGreatDoor
/-! ### Small, brief -/
/-! ### made -/
/-! ### Sign, Neg, Abs -/
end Go.Proofs.YtnddllipjippnaaGreatDoor
