/- V45: LMB5. -/
import Derived.Test.YtbejphgbbpplbaaGreatDoorV44
namespace Go.Proofs.YtbejphgbbpplbaaGreatDoor
open Go.RowKit Kl
set_option maxRecDepth 100000
theorem oH:I2 22=true:=by decide +kernel
theorem oI:I2 23=true:=by decide +kernel
theorem om:Jj [[65]]=true:=by decide +kernel
theorem oJ:I2 1=true:=by decide +kernel
end Go.Proofs.YtbejphgbbpplbaaGreatDoor
