/- V47: LMB4. -/
import Derived.Test.YtbejphgbbpplbaaGreatDoorV44
namespace Go.Proofs.YtbejphgbbpplbaaGreatDoor
open Go.RowKit Kl
set_option maxRecDepth 100000
theorem oh:Jj (Cb 23)=true:=by decide +kernel
theorem oD:I2 20=true:=by decide +kernel
theorem oG:I2 21=true:=by decide +kernel
end Go.Proofs.YtbejphgbbpplbaaGreatDoor
