/- V48: LMB2. -/
import Derived.Test.YtbejphgbbpplbaaGreatDoorV44
namespace Go.Proofs.YtbejphgbbpplbaaGreatDoor
open Go.RowKit Kl
set_option maxRecDepth 100000
theorem ny:Jj (Cb 20)=true:=by decide +kernel
theorem str21:Jj (Cb 21)=true:=by decide +kernel
end Go.Proofs.YtbejphgbbpplbaaGreatDoor
