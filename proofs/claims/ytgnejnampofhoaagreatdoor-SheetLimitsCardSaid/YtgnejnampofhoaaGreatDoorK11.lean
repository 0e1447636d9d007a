/- K11: Int7. -/
import Derived.Test.YtgnejnampofhoaaGreatDoorK02
namespace Go.Proofs.YtgnejnampofhoaaGreatDoor
end Go.Proofs.YtgnejnampofhoaaGreatDoor
