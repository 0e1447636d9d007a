/- W34. -/
import Derived.Test.YtnfedbopbcegjaaGreatDoorW33
namespace Go.Proofs.YtnfedbopbcegjaaGreatDoor
end Go.Proofs.YtnfedbopbcegjaaGreatDoor
