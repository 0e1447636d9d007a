/- V46: LMB3. -/
import Derived.Test.YtbejphgbbpplbaaGreatDoorV44
namespace Go.Proofs.YtbejphgbbpplbaaGreatDoor
open Go.RowKit Kl
set_option maxRecDepth 100000
theorem nz:Jj (Cb 22)=true:=by decide +kernel
theorem nZ:I2 18=true:=by decide +kernel
theorem oC:I2 19=true:=by decide +kernel
end Go.Proofs.YtbejphgbbpplbaaGreatDoor
