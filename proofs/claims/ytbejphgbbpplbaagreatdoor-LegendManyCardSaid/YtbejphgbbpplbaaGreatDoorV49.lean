/- V49: LMB1. -/
import Derived.Test.YtbejphgbbpplbaaGreatDoorV44
namespace Go.Proofs.YtbejphgbbpplbaaGreatDoor
open Go.RowKit Kl
set_option maxRecDepth 100000
theorem nv:Jj (Cb 18)=true:=by decide +kernel
theorem nw:Jj (Cb 19)=true:=by decide +kernel
end Go.Proofs.YtbejphgbbpplbaaGreatDoor
