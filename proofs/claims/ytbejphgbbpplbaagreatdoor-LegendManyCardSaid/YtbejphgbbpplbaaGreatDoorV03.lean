/- V03: Shelf LGJ1 RQ RQ2 Zed E1 E2. -/
import Derived.Shelf.Small.Strs
import Derived.Shelf.Small.Wraps
import Derived.Shelf.Strconv.Itoa3
import Derived.Shelf.Strconv.ErrVar
import Derived.Shelf.Strconv.ErrVarAll
import Derived.Shelf.Strconv.ParseInt10All
import Derived.Shelf.Pu.ErrVarParseUint
import Derived.Shelf.Strings.Shaped
import Derived.Shelf.Strings.BuilderCap
import Derived.Shelf.Slices.Turned
import Derived.Shelf.Slices.Clone
import Derived.Shelf.Slices.CompactS
import Derived.Shelf.SlSortCmp.Insertion1
import Derived.Shelf.SlSortCmp.PartialInsertion1
import Derived.Test.YtbejphgbbpplbaaGreatDoorRows
import Derived.ProofKit
import Derived.SevenTiedAt
import Derived.Test.YtbejphgbbpplbaaGreatDoorV02
import Derived.Deep.RegionHeld3
set_option maxRecDepth 100000
set_option maxHeartbeats 4000000
namespace Go.Proofs
open Go.Shelf
def Tryz.lays169_ren:Go.Shelf.Ren:=⟨fun|169=>287|n=>n,fun|70=>327|9=>9|0=>0|72=>329|37=>42|127=>366|3=>3|5=>5|n=>n,fun|n=>n⟩
theorem Tryz.lays169:Go.Proofs.Lays.n169 Tryz.prog Tryz.lays169_ren:={
 mixed:=by kernel_rfl
 f169:=Tryz.func287.trans (congrArg some (by kernel_rfl))
 t0:=Tryz.underlying0
 a0:=Tryz.isAgg0
 z0:=Tryz.sizeOf0
 v0:=Tryz.zeroValue0
 t3:=Tryz.underlying3
 a3:=Tryz.isAgg3
 z3:=Tryz.sizeOf3
 v3:=Tryz.zeroValue3
 t9:=Tryz.underlying9
 a9:=Tryz.isAgg9
 z9:=Tryz.sizeOf9
 v9:=Tryz.zeroValue9
 t37:=Tryz.underlying42
 a37:=Tryz.isAgg42
 z37:=Tryz.sizeOf42
 v37:=Tryz.zeroValue42
 t70:=Tryz.underlying327
 a70:=Tryz.isAgg327
 z70:=Tryz.sizeOf327
 v70:=Tryz.zeroValue327
 t72:=Tryz.underlying329
 a72:=Tryz.isAgg329
 z72:=Tryz.sizeOf329
 v72:=Tryz.zeroValue329
 t127:=Tryz.underlying366
 a127:=Tryz.isAgg366
 z127:=Tryz.sizeOf366
 v127:=Tryz.zeroValue366}
theorem Tryz.Builder_Extra_169:Builder.Extra Tryz.prog Tryz.lays169_ren:={
 sizeBuilder:=by kernel_rfl
 liesBuilder:=by kernel_rfl
 t5:=Tryz.underlying5
 a5:=Tryz.isAgg5
 z5:=Tryz.sizeOf5
 v5:=Tryz.zeroValue5
 infoByte:=by kernel_rfl
 cellsByte:=by kernel_rfl
 sizeByte:=by kernel_rfl
 neB5:=by decide}
def Tryz.lays106_ren:Go.Shelf.Ren:=⟨fun|106=>100|213=>169|265=>251|n=>n,fun|9=>9|3=>3|n=>n,fun|n=>n⟩
theorem Tryz.lays106:Go.Proofs.Lays.n106 Tryz.prog Tryz.lays106_ren:={
 mixed:=by kernel_rfl
 f106:=Tryz.func100.trans (congrArg some (by kernel_rfl))
 f213:=Tryz.func169.trans (congrArg some (by kernel_rfl))
 f265:=Tryz.func251.trans (congrArg some (by kernel_rfl))
 t3:=Tryz.underlying3
 a3:=Tryz.isAgg3
 z3:=Tryz.sizeOf3
 v3:=Tryz.zeroValue3
 t9:=Tryz.underlying9
 a9:=Tryz.isAgg9
 z9:=Tryz.sizeOf9
 v9:=Tryz.zeroValue9}
open Go.RowKit in
theorem Tryz.strings_Compare(a b:ByteArray)(w:World) :
  Calls Tryz.prog 100 #[.string a,.string b] w fun e w'=>e=.returned (.int .i64 (Lib.compareBytes a.data.toList b.data.toList))/\w'=w:=Any.strings_Compare Tryz.lays106 a b w
def Tryz.lays103_ren:Go.Shelf.Ren:=⟨fun|103=>277|210=>332|206=>336|n=>n,fun|9=>9|4=>4|24=>320|3=>3|n=>n,fun|n=>n⟩
theorem Tryz.lays103:Go.Proofs.Lays.n103 Tryz.prog Tryz.lays103_ren:={
 mixed:=by kernel_rfl
 f103:=Tryz.func277.trans (congrArg some (by kernel_rfl))
 f206:=Tryz.func336.trans (congrArg some (by kernel_rfl))
 f210:=Tryz.func332.trans (congrArg some (by kernel_rfl))
 t3:=Tryz.underlying3
 a3:=Tryz.isAgg3
 z3:=Tryz.sizeOf3
 v3:=Tryz.zeroValue3
 t4:=Tryz.underlying4
 a4:=Tryz.isAgg4
 z4:=Tryz.sizeOf4
 v4:=Tryz.zeroValue4
 t9:=Tryz.underlying9
 a9:=Tryz.isAgg9
 z9:=Tryz.sizeOf9
 v9:=Tryz.zeroValue9
 t24:=Tryz.underlying320
 a24:=Tryz.isAgg320
 z24:=Tryz.sizeOf320
 v24:=Tryz.zeroValue320}
open Go.RowKit in
theorem Tryz.strings_CutPrefix(s p:ByteArray)(w:World) :
  Calls Tryz.prog 277 #[.string s,.string p] w fun e w'=>e=.returned (.tuple #[.string ⟨(Lib.trimPrefix s.data.toList p.data.toList).toArray⟩,.bool (Lib.hasPrefix s.data.toList p.data.toList)])/\w'=w:=Any.strings_CutPrefix Tryz.lays103 s p w
open Go.RowKit in
theorem Tryz.Builder_String_any_k(B b:Nat)(l:List UInt8)(w:World)(h:Lib.IsBuilderF 329 5 B b (Lib.byteCells l) w)(Zq:B<=w.heap.size) :
  Calls Tryz.prog 287 #[.pointer (some ⟨b,0,none⟩)] w fun e w'=>e=.returned (.string ⟨l.toArray⟩)/\(Lib.IsBuilderF 329 5 B b (Lib.byteCells l) w'/\Below B w w'/\Lib.OthersKept 5 (some b) w w'):=Any.Builder_String_any_k Tryz.lays169 Tryz.Builder_Extra_169 B b l w h Zq
def Tryz.lays283_ren:Go.Shelf.Ren:=⟨fun|283=>297|n=>n,fun|3=>3|9=>9|4=>4|n=>n,fun|n=>n⟩
theorem Tryz.lays283:Go.Proofs.Lays.n283 Tryz.prog Tryz.lays283_ren:={
 mixed:=by kernel_rfl
 f283:=Tryz.func297.trans (congrArg some (by kernel_rfl))
 t3:=Tryz.underlying3
 a3:=Tryz.isAgg3
 z3:=Tryz.sizeOf3
 v3:=Tryz.zeroValue3
 t4:=Tryz.underlying4
 a4:=Tryz.isAgg4
 z4:=Tryz.sizeOf4
 v4:=Tryz.zeroValue4
 t9:=Tryz.underlying9
 a9:=Tryz.isAgg9
 z9:=Tryz.sizeOf9
 v9:=Tryz.zeroValue9}
open Go.Lib in
theorem Tryz.internal_strconv_small(i:Nat)(h:i<100)(w:World) :
  Calls Tryz.prog 297 #[.int .i64 i] w fun e w'=>e=.returned (.string ⟨(Lib.decDigits i).toArray⟩)/\w'=w:=Any.internal_strconv_small Tryz.lays283 i h w
def Tryz.laysM284_ren:Go.Shelf.Ren:=⟨fun|284=>298|129=>137|317=>344|318=>345|n=>n,fun|53=>195|3=>3|212=>373|0=>0|4=>4|46=>111|5=>5|9=>9|n=>n,fun|17=>3|n=>n⟩
theorem Tryz.laysM284:Go.Proofs.LaysM.n284 Tryz.prog Tryz.laysM284_ren:={
 mixed:=by kernel_rfl
 f129:=Tryz.func137.trans (congrArg some (by kernel_rfl))
 f284:=Tryz.func298.trans (congrArg some (by kernel_rfl))
 f317:=Tryz.func344.trans (congrArg some (by kernel_rfl))
 f318:=Tryz.func345.trans (congrArg some (by kernel_rfl))
 t0:=Tryz.underlying0
 a0:=Tryz.isAgg0
 z0:=Tryz.sizeOf0
 v0:=Tryz.zeroValue0
 t3:=Tryz.underlying3
 a3:=Tryz.isAgg3
 z3:=Tryz.sizeOf3
 v3:=Tryz.zeroValue3
 t4:=Tryz.underlying4
 a4:=Tryz.isAgg4
 z4:=Tryz.sizeOf4
 v4:=Tryz.zeroValue4
 t5:=Tryz.underlying5
 a5:=Tryz.isAgg5
 z5:=Tryz.sizeOf5
 v5:=Tryz.zeroValue5
 t9:=Tryz.underlying9
 a9:=Tryz.isAgg9
 z9:=Tryz.sizeOf9
 v9:=Tryz.zeroValue9
 t46:=Tryz.underlying111
 a46:=Tryz.isAgg111
 z46:=Tryz.sizeOf111
 v46:=Tryz.zeroValue111
 t53:=Tryz.underlying195
 a53:=Tryz.isAgg195
 z53:=Tryz.sizeOf195
 v53:=Tryz.zeroValue195
 t212:=Tryz.underlying373
 a212:=Tryz.isAgg373
 z212:=Tryz.sizeOf373
 v212:=Tryz.zeroValue373
 g17:=by kernel_rfl
 i0:=by kernel_rfl
 i3:=by kernel_rfl
 i4:=by kernel_rfl
 i5:=by kernel_rfl
 i9:=by kernel_rfl
 i46:=by kernel_rfl
 i53:=by kernel_rfl
 i212:=by kernel_rfl
 m17:=by kernel_rfl}
open Go.Lib in
theorem Tryz.internal_strconv_numDigits(u:Nat)(h1:1<=u)(h2:u<18446744073709551616)(w:World)(htab:Lib.TabIs Tryz.prog w "internal/strconv.uint64pow10" .u64 Lib.pow10Tab) :
  Calls Tryz.prog 298 #[.int .u64 u] w fun e w'=>e=.returned (.int .i64 (Lib.nDigits u))/\w'=w:=Any.internal_strconv_numDigits Tryz.laysM284 u h1 h2 w htab
def Tryz.lays285_ren:Go.Shelf.Ren:=⟨fun|285=>299|n=>n,fun|37=>42|53=>195|3=>3|4=>4|51=>193|9=>9|5=>5|0=>0|n=>n,fun|n=>n⟩
theorem Tryz.lays285:Go.Proofs.Lays.n285 Tryz.prog Tryz.lays285_ren:={
 mixed:=by kernel_rfl
 f285:=Tryz.func299.trans (congrArg some (by kernel_rfl))
 t0:=Tryz.underlying0
 a0:=Tryz.isAgg0
 z0:=Tryz.sizeOf0
 v0:=Tryz.zeroValue0
 t3:=Tryz.underlying3
 a3:=Tryz.isAgg3
 z3:=Tryz.sizeOf3
 v3:=Tryz.zeroValue3
 t4:=Tryz.underlying4
 a4:=Tryz.isAgg4
 z4:=Tryz.sizeOf4
 v4:=Tryz.zeroValue4
 t5:=Tryz.underlying5
 a5:=Tryz.isAgg5
 z5:=Tryz.sizeOf5
 v5:=Tryz.zeroValue5
 t9:=Tryz.underlying9
 a9:=Tryz.isAgg9
 z9:=Tryz.sizeOf9
 v9:=Tryz.zeroValue9
 t37:=Tryz.underlying42
 a37:=Tryz.isAgg42
 z37:=Tryz.sizeOf42
 v37:=Tryz.zeroValue42
 t51:=Tryz.underlying193
 a51:=Tryz.isAgg193
 z51:=Tryz.sizeOf193
 v51:=Tryz.zeroValue193
 t53:=Tryz.underlying195
 a53:=Tryz.isAgg195
 z53:=Tryz.sizeOf195
 v53:=Tryz.zeroValue195}
open Go.RowKit Go.Sort Go.Lib in
theorem Tryz.internal_strconv_formatBase10(blk off cap:Nat)(u:Nat)(d:Array UInt8)(w:World)(hH:Holds (fun (b:UInt8)=>Value.int .u8 (b.toNat:Int)) w blk off d)(hu:u<10^d.size)(NS:u<18446744073709551616)(hsz:d.size<4611686018427387904) :
  Calls Tryz.prog 299 #[.slice (some ⟨blk,off,none⟩) d.size cap,.int .u64 u] w fun e w'=>e=.returned (.tuple #[])/\∃(n v':Nat) (dk:Array UInt8),w'=(putRow (fun (b:UInt8)=>Value.int .u8 (b.toNat:Int)) w blk off dk).drewN n/\FmtInv d.size u 0 v' dk:=Any.internal_strconv_formatBase10 Tryz.lays285 blk off cap u d w hH hu NS hsz
def Tryz.laysM171_ren:Go.Shelf.Ren:=⟨fun|171=>94|243=>167|246=>250|283=>297|284=>298|285=>299|286=>300|129=>137|317=>344|318=>345|319=>346|320=>347|337=>362|338=>363|n=>n,fun|3=>3|9=>9|2=>2|4=>4|171=>345|0=>0|53=>195|37=>42|5=>5|173=>347|212=>373|51=>193|20=>20|213=>374|46=>111|232=>391|233=>392|n=>n,fun|17=>3|18=>4|19=>5|n=>n⟩
theorem Tryz.laysM171:Go.Proofs.LaysM.n171 Tryz.prog Tryz.laysM171_ren:={
 mixed:=by kernel_rfl
 f129:=Tryz.func137.trans (congrArg some (by kernel_rfl))
 f171:=Tryz.func94.trans (congrArg some (by kernel_rfl))
 f243:=Tryz.func167.trans (congrArg some (by kernel_rfl))
 f246:=Tryz.func250.trans (congrArg some (by kernel_rfl))
 f283:=Tryz.func297.trans (congrArg some (by kernel_rfl))
 f284:=Tryz.func298.trans (congrArg some (by kernel_rfl))
 f285:=Tryz.func299.trans (congrArg some (by kernel_rfl))
 f286:=Tryz.func300.trans (congrArg some (by kernel_rfl))
 f317:=Tryz.func344.trans (congrArg some (by kernel_rfl))
 f318:=Tryz.func345.trans (congrArg some (by kernel_rfl))
 f319:=Tryz.func346.trans (congrArg some (by kernel_rfl))
 f320:=Tryz.func347.trans (congrArg some (by kernel_rfl))
 f337:=Tryz.func362.trans (congrArg some (by kernel_rfl))
 f338:=Tryz.func363.trans (congrArg some (by kernel_rfl))
 t0:=Tryz.underlying0
 a0:=Tryz.isAgg0
 z0:=Tryz.sizeOf0
 v0:=Tryz.zeroValue0
 t2:=Tryz.underlying2
 a2:=Tryz.isAgg2
 z2:=Tryz.sizeOf2
 v2:=Tryz.zeroValue2
 t3:=Tryz.underlying3
 a3:=Tryz.isAgg3
 z3:=Tryz.sizeOf3
 v3:=Tryz.zeroValue3
 t4:=Tryz.underlying4
 a4:=Tryz.isAgg4
 z4:=Tryz.sizeOf4
 v4:=Tryz.zeroValue4
 t5:=Tryz.underlying5
 a5:=Tryz.isAgg5
 z5:=Tryz.sizeOf5
 v5:=Tryz.zeroValue5
 t9:=Tryz.underlying9
 a9:=Tryz.isAgg9
 z9:=Tryz.sizeOf9
 v9:=Tryz.zeroValue9
 t20:=Tryz.underlying20
 a20:=Tryz.isAgg20
 z20:=Tryz.sizeOf20
 v20:=Tryz.zeroValue20
 t37:=Tryz.underlying42
 a37:=Tryz.isAgg42
 z37:=Tryz.sizeOf42
 v37:=Tryz.zeroValue42
 t46:=Tryz.underlying111
 a46:=Tryz.isAgg111
 z46:=Tryz.sizeOf111
 v46:=Tryz.zeroValue111
 t51:=Tryz.underlying193
 a51:=Tryz.isAgg193
 z51:=Tryz.sizeOf193
 v51:=Tryz.zeroValue193
 t53:=Tryz.underlying195
 a53:=Tryz.isAgg195
 z53:=Tryz.sizeOf195
 v53:=Tryz.zeroValue195
 t171:=Tryz.underlying345
 a171:=Tryz.isAgg345
 z171:=Tryz.sizeOf345
 v171:=Tryz.zeroValue345
 t173:=Tryz.underlying347
 a173:=Tryz.isAgg347
 z173:=Tryz.sizeOf347
 v173:=Tryz.zeroValue347
 t212:=Tryz.underlying373
 a212:=Tryz.isAgg373
 z212:=Tryz.sizeOf373
 v212:=Tryz.zeroValue373
 t213:=Tryz.underlying374
 a213:=Tryz.isAgg374
 z213:=Tryz.sizeOf374
 t232:=Tryz.underlying391
 a232:=Tryz.isAgg391
 z232:=Tryz.sizeOf391
 v232:=Tryz.zeroValue391
 t233:=Tryz.underlying392
 a233:=Tryz.isAgg392
 z233:=Tryz.sizeOf392
 v233:=Tryz.zeroValue392
 g17:=by kernel_rfl
 g18:=by kernel_rfl
 g19:=by kernel_rfl
 i0:=by kernel_rfl
 i2:=by kernel_rfl
 i3:=by kernel_rfl
 i4:=by kernel_rfl
 i5:=by kernel_rfl
 i9:=by kernel_rfl
 i20:=by kernel_rfl
 i37:=by kernel_rfl
 i46:=by kernel_rfl
 i51:=by kernel_rfl
 i53:=by kernel_rfl
 i171:=by kernel_rfl
 i173:=by kernel_rfl
 i212:=by kernel_rfl
 i232:=by kernel_rfl
 i233:=by kernel_rfl
 m17:=by kernel_rfl
 m18:=by kernel_rfl
 m19:=by kernel_rfl}
open Go.RowKit Go.Sort Go.Lib in
theorem Tryz.strconv_Itoa(n:Int)(h0:-9223372036854775808<=n)(h1:n<=9223372036854775807)(w:World)(htab:Lib.TabIs Tryz.prog w "internal/strconv.uint64pow10" .u64 Lib.pow10Tab) :
  Calls Tryz.prog 94 #[.int .i64 n] w fun e w'=>e=.returned (.string ⟨(Lib.itoa n).toArray⟩)/\∃k os,w'=grow (w.drewN k) os:=Any.strconv_Itoa Tryz.laysM171 n h0 h1 w htab
def Tryz.laysC172_ren:Go.Shelf.Ren:=⟨fun|172=>159|244=>245|245=>246|247=>292|279=>293|280=>294|281=>295|282=>296|287=>337|316=>342|171=>94|205=>343|321=>359|322=>360|243=>167|246=>250|283=>297|284=>298|285=>299|286=>300|129=>137|317=>344|318=>345|319=>346|320=>347|337=>362|338=>363|n=>n,fun|9=>9|3=>3|75=>217|76=>218|4=>4|5=>5|167=>339|37=>42|0=>0|85=>340|2=>2|168=>342|53=>195|175=>324|46=>111|210=>370|127=>366|145=>386|143=>384|21=>21|171=>345|173=>347|212=>373|51=>193|20=>20|213=>374|232=>391|233=>392|80=>335|n=>n,fun|15=>1|16=>2|17=>3|18=>4|19=>5|n=>n⟩
theorem Tryz.laysC172:Go.Proofs.LaysC.n172 Tryz.prog Tryz.laysC172_ren:={
 mixed:=by kernel_rfl
 f129:=Tryz.func137.trans (congrArg some (by kernel_rfl))
 f171:=Tryz.func94.trans (congrArg some (by kernel_rfl))
 f172:=Tryz.func159.trans (congrArg some (by kernel_rfl))
 f205:=Tryz.func343.trans (congrArg some (by kernel_rfl))
 f243:=Tryz.func167.trans (congrArg some (by kernel_rfl))
 f244:=Tryz.func245.trans (congrArg some (by kernel_rfl))
 f245:=Tryz.func246.trans (congrArg some (by kernel_rfl))
 f246:=Tryz.func250.trans (congrArg some (by kernel_rfl))
 f247:=Tryz.func292.trans (congrArg some (by kernel_rfl))
 f279:=Tryz.func293.trans (congrArg some (by kernel_rfl))
 f280:=Tryz.func294.trans (congrArg some (by kernel_rfl))
 f281:=Tryz.func295.trans (congrArg some (by kernel_rfl))
 f282:=Tryz.func296.trans (congrArg some (by kernel_rfl))
 f283:=Tryz.func297.trans (congrArg some (by kernel_rfl))
 f284:=Tryz.func298.trans (congrArg some (by kernel_rfl))
 f285:=Tryz.func299.trans (congrArg some (by kernel_rfl))
 f286:=Tryz.func300.trans (congrArg some (by kernel_rfl))
 f287:=Tryz.func337.trans (congrArg some (by kernel_rfl))
 f316:=Tryz.func342.trans (congrArg some (by kernel_rfl))
 f317:=Tryz.func344.trans (congrArg some (by kernel_rfl))
 f318:=Tryz.func345.trans (congrArg some (by kernel_rfl))
 f319:=Tryz.func346.trans (congrArg some (by kernel_rfl))
 f320:=Tryz.func347.trans (congrArg some (by kernel_rfl))
 f321:=Tryz.func359.trans (congrArg some (by kernel_rfl))
 f322:=Tryz.func360.trans (congrArg some (by kernel_rfl))
 f337:=Tryz.func362.trans (congrArg some (by kernel_rfl))
 f338:=Tryz.func363.trans (congrArg some (by kernel_rfl))
 t0:=Tryz.underlying0
 a0:=Tryz.isAgg0
 z0:=Tryz.sizeOf0
 v0:=Tryz.zeroValue0
 t2:=Tryz.underlying2
 a2:=Tryz.isAgg2
 z2:=Tryz.sizeOf2
 v2:=Tryz.zeroValue2
 t3:=Tryz.underlying3
 a3:=Tryz.isAgg3
 z3:=Tryz.sizeOf3
 v3:=Tryz.zeroValue3
 t4:=Tryz.underlying4
 a4:=Tryz.isAgg4
 z4:=Tryz.sizeOf4
 v4:=Tryz.zeroValue4
 t5:=Tryz.underlying5
 a5:=Tryz.isAgg5
 z5:=Tryz.sizeOf5
 v5:=Tryz.zeroValue5
 t9:=Tryz.underlying9
 a9:=Tryz.isAgg9
 z9:=Tryz.sizeOf9
 v9:=Tryz.zeroValue9
 t20:=Tryz.underlying20
 a20:=Tryz.isAgg20
 z20:=Tryz.sizeOf20
 v20:=Tryz.zeroValue20
 t21:=Tryz.underlying21
 a21:=Tryz.isAgg21
 z21:=Tryz.sizeOf21
 v21:=Tryz.zeroValue21
 t37:=Tryz.underlying42
 a37:=Tryz.isAgg42
 z37:=Tryz.sizeOf42
 v37:=Tryz.zeroValue42
 t46:=Tryz.underlying111
 a46:=Tryz.isAgg111
 z46:=Tryz.sizeOf111
 v46:=Tryz.zeroValue111
 t51:=Tryz.underlying193
 a51:=Tryz.isAgg193
 z51:=Tryz.sizeOf193
 v51:=Tryz.zeroValue193
 t53:=Tryz.underlying195
 a53:=Tryz.isAgg195
 z53:=Tryz.sizeOf195
 v53:=Tryz.zeroValue195
 t75:=Tryz.underlying217
 a75:=Tryz.isAgg217
 z75:=Tryz.sizeOf217
 v75:=Tryz.zeroValue217
 t76:=Tryz.underlying218
 a76:=Tryz.isAgg218
 z76:=Tryz.sizeOf218
 v76:=Tryz.zeroValue218
 t85:=Tryz.underlying340
 a85:=Tryz.isAgg340
 z85:=Tryz.sizeOf340
 v85:=Tryz.zeroValue340
 t127:=Tryz.underlying366
 a127:=Tryz.isAgg366
 z127:=Tryz.sizeOf366
 v127:=Tryz.zeroValue366
 t143:=Tryz.underlying384
 a143:=Tryz.isAgg384
 z143:=Tryz.sizeOf384
 v143:=Tryz.zeroValue384
 t145:=Tryz.underlying386
 a145:=Tryz.isAgg386
 z145:=Tryz.sizeOf386
 v145:=Tryz.zeroValue386
 t167:=Tryz.underlying339
 a167:=Tryz.isAgg339
 z167:=Tryz.sizeOf339
 v167:=Tryz.zeroValue339
 t168:=Tryz.underlying342
 a168:=Tryz.isAgg342
 z168:=Tryz.sizeOf342
 v168:=Tryz.zeroValue342
 t171:=Tryz.underlying345
 a171:=Tryz.isAgg345
 z171:=Tryz.sizeOf345
 v171:=Tryz.zeroValue345
 t173:=Tryz.underlying347
 a173:=Tryz.isAgg347
 z173:=Tryz.sizeOf347
 v173:=Tryz.zeroValue347
 t175:=Tryz.underlying324
 a175:=Tryz.isAgg324
 z175:=Tryz.sizeOf324
 v175:=Tryz.zeroValue324
 t210:=Tryz.underlying370
 a210:=Tryz.isAgg370
 z210:=Tryz.sizeOf370
 v210:=Tryz.zeroValue370
 t212:=Tryz.underlying373
 a212:=Tryz.isAgg373
 z212:=Tryz.sizeOf373
 v212:=Tryz.zeroValue373
 t213:=Tryz.underlying374
 a213:=Tryz.isAgg374
 z213:=Tryz.sizeOf374
 t232:=Tryz.underlying391
 a232:=Tryz.isAgg391
 z232:=Tryz.sizeOf391
 v232:=Tryz.zeroValue391
 t233:=Tryz.underlying392
 a233:=Tryz.isAgg392
 z233:=Tryz.sizeOf392
 v233:=Tryz.zeroValue392
 g15:=by kernel_rfl
 g16:=by kernel_rfl
 g17:=by kernel_rfl
 g18:=by kernel_rfl
 g19:=by kernel_rfl
 t80:=Tryz.underlying335
 a80:=Tryz.isAgg335
 z80:=Tryz.sizeOf335
 v80:=Tryz.zeroValue335
 i0:=by kernel_rfl
 i2:=by kernel_rfl
 i3:=by kernel_rfl
 i4:=by kernel_rfl
 i5:=by kernel_rfl
 i9:=by kernel_rfl
 i20:=by kernel_rfl
 i21:=by kernel_rfl
 i37:=by kernel_rfl
 i46:=by kernel_rfl
 i51:=by kernel_rfl
 i53:=by kernel_rfl
 i75:=by kernel_rfl
 i76:=by kernel_rfl
 i80:=by kernel_rfl
 i85:=by kernel_rfl
 i127:=by kernel_rfl
 i143:=by kernel_rfl
 i145:=by kernel_rfl
 i167:=by kernel_rfl
 i168:=by kernel_rfl
 i171:=by kernel_rfl
 i173:=by kernel_rfl
 i175:=by kernel_rfl
 i210:=by kernel_rfl
 i212:=by kernel_rfl
 i232:=by kernel_rfl
 i233:=by kernel_rfl
 m15:=by kernel_rfl
 m16:=by kernel_rfl
 m17:=by kernel_rfl
 m18:=by kernel_rfl
 m19:=by kernel_rfl
 c0:=by kernel_rfl
 c2:=by kernel_rfl
 c3:=by kernel_rfl
 c4:=by kernel_rfl
 c5:=by kernel_rfl
 c9:=by kernel_rfl
 c20:=by kernel_rfl
 c21:=by kernel_rfl
 c37:=by kernel_rfl
 c46:=by kernel_rfl
 c51:=by kernel_rfl
 c53:=by kernel_rfl
 c75:=by kernel_rfl
 c76:=by kernel_rfl
 c80:=by kernel_rfl
 c85:=by kernel_rfl
 c127:=by kernel_rfl
 c143:=by kernel_rfl
 c145:=by kernel_rfl
 c167:=by kernel_rfl
 c168:=by kernel_rfl
 c171:=by kernel_rfl
 c173:=by kernel_rfl
 c175:=by kernel_rfl
 c210:=by kernel_rfl
 c212:=by kernel_rfl
 c213:=by kernel_rfl
 c232:=by kernel_rfl
 c233:=by kernel_rfl}
open Go.RowKit in
theorem Tryz.strconv_Atoi_ok(s:ByteArray)(hmax:s.size<=9223372036854775806)(v:Int)(h:Lib.atoiAll s.data.toList=.ok v)(w:World) :
  Calls Tryz.prog 159 #[.string s] w fun e w'=>e=.returned (.tuple #[.int .i64 v,.nilIface])/\(w'=w∨∃t,w'=Lib.bytesWorld w 5 t):=Any.strconv_Atoi_ok Tryz.laysC172 s hmax v h w
def Tryz.laysPu14_ren:Go.Shelf.Ren:=⟨fun|14=>281|16=>337|17=>246|19=>359|20=>360|21=>293|22=>294|23=>295|24=>296|25=>342|27=>94|26=>343|28=>167|29=>250|30=>297|31=>298|32=>299|33=>300|35=>137|34=>344|36=>345|37=>346|38=>347|39=>362|40=>363|n=>n,fun|9=>9|3=>3|22=>195|24=>217|25=>324|4=>4|34=>339|5=>5|36=>111|37=>42|0=>0|39=>342|21=>21|44=>370|47=>366|50=>386|48=>384|2=>2|52=>345|55=>347|59=>373|60=>193|20=>20|61=>374|65=>391|66=>392|67=>335|n=>n,fun|0=>1|1=>2|2=>3|3=>4|4=>5|n=>n⟩
theorem Tryz.laysPu14:Go.Proofs.LaysPu.n14 Tryz.prog Tryz.laysPu14_ren:={
 mixed:=by kernel_rfl
 f14:=Tryz.func281.trans (congrArg some (by kernel_rfl))
 f16:=Tryz.func337.trans (congrArg some (by kernel_rfl))
 f17:=Tryz.func246.trans (congrArg some (by kernel_rfl))
 f19:=Tryz.func359.trans (congrArg some (by kernel_rfl))
 f20:=Tryz.func360.trans (congrArg some (by kernel_rfl))
 f21:=Tryz.func293.trans (congrArg some (by kernel_rfl))
 f22:=Tryz.func294.trans (congrArg some (by kernel_rfl))
 f23:=Tryz.func295.trans (congrArg some (by kernel_rfl))
 f24:=Tryz.func296.trans (congrArg some (by kernel_rfl))
 f25:=Tryz.func342.trans (congrArg some (by kernel_rfl))
 f26:=Tryz.func343.trans (congrArg some (by kernel_rfl))
 f27:=Tryz.func94.trans (congrArg some (by kernel_rfl))
 f28:=Tryz.func167.trans (congrArg some (by kernel_rfl))
 f29:=Tryz.func250.trans (congrArg some (by kernel_rfl))
 f30:=Tryz.func297.trans (congrArg some (by kernel_rfl))
 f31:=Tryz.func298.trans (congrArg some (by kernel_rfl))
 f32:=Tryz.func299.trans (congrArg some (by kernel_rfl))
 f33:=Tryz.func300.trans (congrArg some (by kernel_rfl))
 f34:=Tryz.func344.trans (congrArg some (by kernel_rfl))
 f35:=Tryz.func137.trans (congrArg some (by kernel_rfl))
 f36:=Tryz.func345.trans (congrArg some (by kernel_rfl))
 f37:=Tryz.func346.trans (congrArg some (by kernel_rfl))
 f38:=Tryz.func347.trans (congrArg some (by kernel_rfl))
 f39:=Tryz.func362.trans (congrArg some (by kernel_rfl))
 f40:=Tryz.func363.trans (congrArg some (by kernel_rfl))
 t0:=Tryz.underlying0
 a0:=Tryz.isAgg0
 z0:=Tryz.sizeOf0
 v0:=Tryz.zeroValue0
 i0:=by kernel_rfl
 t2:=Tryz.underlying2
 a2:=Tryz.isAgg2
 z2:=Tryz.sizeOf2
 v2:=Tryz.zeroValue2
 i2:=by kernel_rfl
 t3:=Tryz.underlying3
 a3:=Tryz.isAgg3
 z3:=Tryz.sizeOf3
 v3:=Tryz.zeroValue3
 i3:=by kernel_rfl
 t4:=Tryz.underlying4
 a4:=Tryz.isAgg4
 z4:=Tryz.sizeOf4
 v4:=Tryz.zeroValue4
 i4:=by kernel_rfl
 t5:=Tryz.underlying5
 a5:=Tryz.isAgg5
 z5:=Tryz.sizeOf5
 v5:=Tryz.zeroValue5
 i5:=by kernel_rfl
 t9:=Tryz.underlying9
 a9:=Tryz.isAgg9
 z9:=Tryz.sizeOf9
 v9:=Tryz.zeroValue9
 i9:=by kernel_rfl
 t20:=Tryz.underlying20
 a20:=Tryz.isAgg20
 z20:=Tryz.sizeOf20
 v20:=Tryz.zeroValue20
 i20:=by kernel_rfl
 t21:=Tryz.underlying21
 a21:=Tryz.isAgg21
 z21:=Tryz.sizeOf21
 v21:=Tryz.zeroValue21
 i21:=by kernel_rfl
 t22:=Tryz.underlying195
 a22:=Tryz.isAgg195
 z22:=Tryz.sizeOf195
 v22:=Tryz.zeroValue195
 i22:=by kernel_rfl
 t24:=Tryz.underlying217
 a24:=Tryz.isAgg217
 z24:=Tryz.sizeOf217
 v24:=Tryz.zeroValue217
 i24:=by kernel_rfl
 t25:=Tryz.underlying324
 a25:=Tryz.isAgg324
 z25:=Tryz.sizeOf324
 v25:=Tryz.zeroValue324
 i25:=by kernel_rfl
 t34:=Tryz.underlying339
 a34:=Tryz.isAgg339
 z34:=Tryz.sizeOf339
 v34:=Tryz.zeroValue339
 i34:=by kernel_rfl
 c34:=by kernel_rfl
 t36:=Tryz.underlying111
 a36:=Tryz.isAgg111
 z36:=Tryz.sizeOf111
 v36:=Tryz.zeroValue111
 i36:=by kernel_rfl
 t37:=Tryz.underlying42
 a37:=Tryz.isAgg42
 z37:=Tryz.sizeOf42
 v37:=Tryz.zeroValue42
 i37:=by kernel_rfl
 t39:=Tryz.underlying342
 a39:=Tryz.isAgg342
 z39:=Tryz.sizeOf342
 v39:=Tryz.zeroValue342
 i39:=by kernel_rfl
 t44:=Tryz.underlying370
 a44:=Tryz.isAgg370
 z44:=Tryz.sizeOf370
 v44:=Tryz.zeroValue370
 i44:=by kernel_rfl
 t47:=Tryz.underlying366
 a47:=Tryz.isAgg366
 z47:=Tryz.sizeOf366
 v47:=Tryz.zeroValue366
 i47:=by kernel_rfl
 t48:=Tryz.underlying384
 a48:=Tryz.isAgg384
 z48:=Tryz.sizeOf384
 v48:=Tryz.zeroValue384
 i48:=by kernel_rfl
 t50:=Tryz.underlying386
 a50:=Tryz.isAgg386
 z50:=Tryz.sizeOf386
 v50:=Tryz.zeroValue386
 i50:=by kernel_rfl
 t52:=Tryz.underlying345
 a52:=Tryz.isAgg345
 z52:=Tryz.sizeOf345
 v52:=Tryz.zeroValue345
 i52:=by kernel_rfl
 t55:=Tryz.underlying347
 a55:=Tryz.isAgg347
 z55:=Tryz.sizeOf347
 v55:=Tryz.zeroValue347
 i55:=by kernel_rfl
 t59:=Tryz.underlying373
 a59:=Tryz.isAgg373
 z59:=Tryz.sizeOf373
 v59:=Tryz.zeroValue373
 i59:=by kernel_rfl
 t60:=Tryz.underlying193
 a60:=Tryz.isAgg193
 z60:=Tryz.sizeOf193
 v60:=Tryz.zeroValue193
 i60:=by kernel_rfl
 t61:=Tryz.underlying374
 a61:=Tryz.isAgg374
 z61:=Tryz.sizeOf374
 t65:=Tryz.underlying391
 a65:=Tryz.isAgg391
 z65:=Tryz.sizeOf391
 v65:=Tryz.zeroValue391
 i65:=by kernel_rfl
 t66:=Tryz.underlying392
 a66:=Tryz.isAgg392
 z66:=Tryz.sizeOf392
 v66:=Tryz.zeroValue392
 i66:=by kernel_rfl
 t67:=Tryz.underlying335
 a67:=Tryz.isAgg335
 z67:=Tryz.sizeOf335
 v67:=Tryz.zeroValue335
 i67:=by kernel_rfl
 g0:=by kernel_rfl
 m0:=by kernel_rfl
 g1:=by kernel_rfl
 m1:=by kernel_rfl
 g2:=by kernel_rfl
 m2:=by kernel_rfl
 g3:=by kernel_rfl
 m3:=by kernel_rfl
 g4:=by kernel_rfl
 m4:=by kernel_rfl}
open Go.RowKit in
theorem Tryz.strconv_ParseUint_10_at64_ok(s:ByteArray)(hmax:s.size<=9223372036854775806)(u:Nat)(h:Lib.parseUintB 64 s.data.toList=.ok u)(w:World) :
  Calls Tryz.prog 281 #[.string s,.int .i64 10,.int .i64 64] w fun e w'=>e=.returned (.tuple #[.int .u64 u,.nilIface])/\(w'=w∨w'=Lib.bytesWorld w 5 s):=Any.strconv_ParseUint_10_at64_ok Tryz.laysPu14 s hmax u h w
def Tryz.laysM145_ren:Go.Shelf.Ren:=⟨fun|145=>218|220=>276|219=>331|217=>264|225=>356|224=>357|267=>358|266=>324|314=>366|n=>n,fun|9=>9|4=>4|59=>273|3=>3|5=>5|46=>111|146=>389|51=>193|n=>n,fun|1=>0|n=>n⟩
theorem Tryz.laysM145:Go.Proofs.LaysM.n145 Tryz.prog Tryz.laysM145_ren:={
 mixed:=by kernel_rfl
 f145:=Tryz.func218.trans (congrArg some (by kernel_rfl))
 f217:=Tryz.func264.trans (congrArg some (by kernel_rfl))
 f219:=Tryz.func331.trans (congrArg some (by kernel_rfl))
 f220:=Tryz.func276.trans (congrArg some (by kernel_rfl))
 f224:=Tryz.func357.trans (congrArg some (by kernel_rfl))
 f225:=Tryz.func356.trans (congrArg some (by kernel_rfl))
 f266:=Tryz.func324.trans (congrArg some (by kernel_rfl))
 f267:=Tryz.func358.trans (congrArg some (by kernel_rfl))
 f314:=Tryz.func366.trans (congrArg some (by kernel_rfl))
 t3:=Tryz.underlying3
 a3:=Tryz.isAgg3
 z3:=Tryz.sizeOf3
 v3:=Tryz.zeroValue3
 t4:=Tryz.underlying4
 a4:=Tryz.isAgg4
 z4:=Tryz.sizeOf4
 v4:=Tryz.zeroValue4
 t5:=Tryz.underlying5
 a5:=Tryz.isAgg5
 z5:=Tryz.sizeOf5
 v5:=Tryz.zeroValue5
 t9:=Tryz.underlying9
 a9:=Tryz.isAgg9
 z9:=Tryz.sizeOf9
 v9:=Tryz.zeroValue9
 t46:=Tryz.underlying111
 a46:=Tryz.isAgg111
 z46:=Tryz.sizeOf111
 v46:=Tryz.zeroValue111
 t51:=Tryz.underlying193
 a51:=Tryz.isAgg193
 z51:=Tryz.sizeOf193
 v51:=Tryz.zeroValue193
 t59:=Tryz.underlying273
 a59:=Tryz.isAgg273
 z59:=Tryz.sizeOf273
 v59:=Tryz.zeroValue273
 t146:=Tryz.underlying389
 a146:=Tryz.isAgg389
 z146:=Tryz.sizeOf389
 v146:=Tryz.zeroValue389
 g1:=by kernel_rfl
 i3:=by kernel_rfl
 i4:=by kernel_rfl
 i5:=by kernel_rfl
 i9:=by kernel_rfl
 i46:=by kernel_rfl
 i51:=by kernel_rfl
 i59:=by kernel_rfl
 i146:=by kernel_rfl
 m1:=by kernel_rfl
 s1_3:=fun w h=>Go.Proofs.cell_of_shapedOpen_int (zero:=#[.int .i64 0]) (t:=3) h (of_decide_eq_true (by kernel_rfl)) (by kernel_rfl) rfl (by kernel_rfl) (by kernel_rfl) Tryz.underlying3}
open Go.RowKit Go.Lib in
theorem Tryz.strings_Cut_shaped(s sep:ByteArray)(w:World)(h:w.ShapedOpen Tryz.prog)(hs:s.size<4294967281) :
  Calls Tryz.prog 218 #[.string s,.string sep] w fun e w'=>e=.returned (.tuple #[.string ⟨(Lib.cut s.data.toList sep.data.toList).1.toArray⟩,.string ⟨(Lib.cut s.data.toList sep.data.toList).2.1.toArray⟩,.bool (Lib.cut s.data.toList sep.data.toList).2.2])/\∃n,w'=w.drewN n:=Any.strings_Cut_shaped Tryz.laysM145 s sep w h hs
def Tryz.lays99_ren:Go.Shelf.Ren:=⟨fun|99=>279|206=>336|n=>n,fun|9=>9|4=>4|3=>3|n=>n,fun|n=>n⟩
theorem Tryz.lays99:Go.Proofs.Lays.n99 Tryz.prog Tryz.lays99_ren:={
 mixed:=by kernel_rfl
 f99:=Tryz.func279.trans (congrArg some (by kernel_rfl))
 f206:=Tryz.func336.trans (congrArg some (by kernel_rfl))
 t3:=Tryz.underlying3
 a3:=Tryz.isAgg3
 z3:=Tryz.sizeOf3
 v3:=Tryz.zeroValue3
 t4:=Tryz.underlying4
 a4:=Tryz.isAgg4
 z4:=Tryz.sizeOf4
 v4:=Tryz.zeroValue4
 t9:=Tryz.underlying9
 a9:=Tryz.isAgg9
 z9:=Tryz.sizeOf9
 v9:=Tryz.zeroValue9}
open Go.RowKit Go.Lib in
theorem Tryz.strings_HasPrefix(s p:ByteArray)(w:World) :
  Calls Tryz.prog 279 #[.string s,.string p] w fun e w'=>e=.returned (.bool (Lib.hasPrefix s.data.toList p.data.toList))/\w'=w:=Any.strings_HasPrefix Tryz.lays99 s p w
def Tryz.lays101_ren:Go.Shelf.Ren:=⟨fun|101=>222|208=>280|206=>336|n=>n,fun|9=>9|4=>4|3=>3|n=>n,fun|n=>n⟩
theorem Tryz.lays101:Go.Proofs.Lays.n101 Tryz.prog Tryz.lays101_ren:={
 mixed:=by kernel_rfl
 f101:=Tryz.func222.trans (congrArg some (by kernel_rfl))
 f206:=Tryz.func336.trans (congrArg some (by kernel_rfl))
 f208:=Tryz.func280.trans (congrArg some (by kernel_rfl))
 t3:=Tryz.underlying3
 a3:=Tryz.isAgg3
 z3:=Tryz.sizeOf3
 v3:=Tryz.zeroValue3
 t4:=Tryz.underlying4
 a4:=Tryz.isAgg4
 z4:=Tryz.sizeOf4
 v4:=Tryz.zeroValue4
 t9:=Tryz.underlying9
 a9:=Tryz.isAgg9
 z9:=Tryz.sizeOf9
 v9:=Tryz.zeroValue9}
open Go.RowKit Go.Lib in
theorem Tryz.strings_TrimPrefix(s p:ByteArray)(w:World) :
  Calls Tryz.prog 222 #[.string s,.string p] w fun e w'=>e=.returned (.string ⟨(Lib.trimPrefix s.data.toList p.data.toList).toArray⟩)/\w'=w:=Any.strings_TrimPrefix Tryz.lays101 s p w
end Go.Proofs
namespace Go.Proofs.YtbejphgbbpplbaaGreatDoor
theorem Agq:true=Tryz.pinned.checked.prog.looks []:=by kernel_rfl
end Go.Proofs.YtbejphgbbpplbaaGreatDoor
namespace Go.Proofs.YtbejphgbbpplbaaGreatDoor
open Go.RowKit Kl
def Qb(q:Rat):Value:=if (D q.num.natAbs).length<=9/\(D q.den).length<=9 then .tuple #[.int .i64 q.num,.int .i64 q.den,.bool true] else .tuple #[.int .i64 0,.int .i64 0,.bool false]
structure Seg(s:ByteArray)(b:Nat)(m:Bs):Prop where
 le:b+m.length<=s.size
 all:BA m
 at_:∀(j:Nat) (h:j<s.size),b<=j→j<b+m.length→s[j]=m.getD (j-b) 0
theorem Seg.digit{s:ByteArray}{b:Nat}{m:Bs}(h:Seg s b m){j:Nat}(hj:j<s.size)(h1:b<=j)(h2:j<b+m.length) :
  ∃c:UInt8,s[j]=c/\Fj c/\val (m.take (j+1-b))=val (m.take (j-b))*10+(c.toNat-48):=by
 have e:=h.at_ j hj h1 h2;have hl:j-b<m.length:=(by omega);refine⟨m[j-b],?_,h.all _ (AmY hl),?_⟩
 ·rw [e];simp [List.getD,hl]
 ·rw [show j+1-b=j-b+1 by omega,Ana hl,jL];rfl
theorem Ak0{m:Bs}(h:BA m){k:Nat} : val (m.take k)<10^k:=by
 have h1:=JY (Yj h k);have h2:10^(m.take k).length<=10^k:=Nat.pow_le_pow_right (by omega) (by rw [List.length_take];omega);omega
theorem Seg.digit'{s:ByteArray}{b:Nat}{m:Bs}(h:Seg s b m){j:Nat}(h1:b<=j)(h2:j<b+m.length)(h9:j<b+9) :
  ∃(c:UInt8) (v:Nat) (hj:j<s.size),s[j]=c/\(48:Int)<=(c.toNat:Int)/\(c.toNat:Int)<=57/\((c.toNat:Int) != 47)=true/\v=val (m.take (j-b))/\(v:Int)<=99999999/\
   ((val (m.take (j+1-b)):Nat):Int)=10*(v:Int)+((c.toNat:Int)-48):=by
 have hj:j<s.size:=(by have:=h.le;omega);obtain⟨c,e1,d,e2⟩:=h.digit hj h1 h2;have hv:=Ak0 h.all (k:=j-b);have h8:10^(j-b)<=10^8:=Nat.pow_le_pow_right (by omega) (by omega);have h10:(10:Nat)^8=100000000:=(by decide);have:=d.1;have:=d.2;refine⟨c,_,hj,e1,by omega,by omega,?_,rfl,by omega,by rw [e2];omega⟩;rw [bne_iff_ne];omega
def EB(sg:Bool)(m m2:Bs):Value:=if m.length<=9/\m2.length<=9 then .tuple #[.int .i64 (if sg then -(val m:Int)else (val m:Int)),.int .i64 (val m2:Nat),.bool true] else .tuple #[.int .i64 0,.int .i64 0,.bool false]
theorem Qd{sg:Bool}{m m2:Bs}(h:9<m.length∨9<m2.length):EB sg m m2=.tuple #[.int .i64 0,.int .i64 0,.bool false]:=if_neg (by omega)
theorem WN{sg:Bool}{m m2:Bs}(h:m.length<=9)(h2:m2.length<=9):EB sg m m2=.tuple #[.int .i64 (if sg then -(val m:Int)else (val m:Int)),.int .i64 (val m2:Nat),.bool true]:=if_pos ⟨h,h2⟩
theorem Io{a b:Value}(h:b=a):Ending.returned a=.returned b:=by rw [h]
/-! ### The walks -/
theorem Aio(s:ByteArray)(m:Bs)(hm:Seg s 0 m)(hs:s.size=0+m.length)(hmax:s.size<=100000)(h0:0<m.length)(w:World) :
  Calls Tryz.prog 142 #[.string s] w (fun e w'=>e=.returned (EB false m [49])/\w=w'):=by
 have hp:(0:Int)<(s.size:Int):=(by omega);obtain⟨c0,-,hs0,e0,d0,d1,-⟩:=hm.digit' (j:=0) (by omega) (by omega) (by omega);have hc:((c0.toNat:Int) == 45)=false:=(by rw [beq_eq_false_iff_ne];omega);clear d0 d1;have HS:=AmU hs;clear hs;go_enter Tryz.func142,Tryz.ntmps142;go_wp2;clear hc e0 hp
 go_loop [2,3,5] (fun n z i=>∃j:Nat,0<=j/\j<=0+m.length/\j<=0+9/\z=.int .i64 0/\i=.int .i64 (j:Nat)/\n=.int .i64 (val (m.take (j-0)):Nat)) (fun _ _ i=>s.size-(intOf i).toNat)
 case atStart=>exact⟨0,by omega,by omega,by omega,rfl,rfl,by simp [JZ]⟩
 case round=>
  obtain⟨j,hj0,Ms,Mv,rfl,rfl,rfl⟩:=hrel;have bG:j<=s.size:=(by have:=HS.out;omega);by_cases hlt:j<0+m.length
  ·by_cases h9:j=0+9
   ·have FR:j<s.size:=(by have:=HS.out;omega);obtain⟨c,e,d,-⟩:=hm.digit FR hj0 hlt;have d1:=d.1;have FO:((c.toNat:Int) != 47)=true:=(by rw [bne_iff_ne];omega);have IE:(((j:Int)) == 9)=true:=(by rw [beq_iff_eq];omega);have KN:(j:Int)<(s.size:Int):=(by omega);have IL:(0:Int)<=(j:Int):=(by omega);have HV:Hid (EB false m [49]=.tuple #[.int .i64 0,.int .i64 0,.bool false]):=AmU (Qd (.inl (by omega)));clear h9 d d1;go_wp2;go_ret3;exact⟨Io HV.out,rfl⟩
   ·obtain⟨c,v,FR,e,d1,d2,FO,hv,JF,hn⟩:=hm.digit' hj0 hlt (by omega);have IE:(((j:Int)) == 9)=false:=(by rw [beq_eq_false_iff_ne];omega);have KN:(j:Int)<(s.size:Int):=(by omega);have IL:(0:Int)<=(j:Int):=(by omega);rw [←hv];have HN:=AmU hn;clear hv hn;go_wp2
    go_round
    case rel=>exact⟨j+1,by omega,by omega,by omega,rfl,by go_num,by rw [HN.out]⟩
    case measure=>simp [intOf];omega
  ·have FQ:j=0+m.length:=(by omega);have ht:m.take (j-0)=m:=by rw [FQ];simp
   have JF:((val m:Nat):Int)<=999999999:=by have h1:=JY hm.all;have h2:10^m.length<=10^9:=Nat.pow_le_pow_right (by omega) (by omega);have h3:(10:Nat)^9=1000000000:=(by decide);omega
   have BX:m.length<=9:=(by omega);rw [ht];have IL:(0:Int)<=(j:Int):=(by omega);have hle:(s.size:Int)<=(j:Int):=(by have:=HS.out;omega);have CZ:((j:Int) == (s.size:Int))=true:=(by rw [beq_iff_eq];have:=HS.out;omega);have HV:Hid (EB false m [49]=.tuple #[.int .i64 ((val m:Int)),.int .i64 1,.bool true]):=AmU (WN BX (by simp));clear ht FQ hlt;go_wp2;go_ret3;exact⟨Io HV.out,rfl⟩
theorem Aim(s:ByteArray)(m m2:Bs)(hm:Seg s 0 m)(Gv:Seg s (0+m.length+1) m2)(hs:s.size=0+m.length+1+m2.length)(h2:0<m2.length)(hq:∃h:0+m.length<s.size,s[0+m.length]=47)(hmax:s.size<=100000)(h0:0<m.length)(w:World) :
  Calls Tryz.prog 142 #[.string s] w (fun e w'=>e=.returned (EB false m m2)/\w=w'):=by
 have hp:(0:Int)<(s.size:Int):=(by omega);obtain⟨c0,-,hs0,e0,d0,d1,-⟩:=hm.digit' (j:=0) (by omega) (by omega) (by omega);have hc:((c0.toNat:Int) == 45)=false:=(by rw [beq_eq_false_iff_ne];omega);clear d0 d1;have HS:=AmU hs;clear hs;go_enter Tryz.func142,Tryz.ntmps142;go_wp2;clear hc e0 hp
 go_loop [2,3,5] (fun n z i=>∃j:Nat,0<=j/\j<=0+m.length/\j<=0+9/\z=.int .i64 0/\i=.int .i64 (j:Nat)/\n=.int .i64 (val (m.take (j-0)):Nat)) (fun _ _ i=>s.size-(intOf i).toNat)
 case atStart=>exact⟨0,by omega,by omega,by omega,rfl,rfl,by simp [JZ]⟩
 case round=>
  obtain⟨j,hj0,Ms,Mv,rfl,rfl,rfl⟩:=hrel;have bG:j<=s.size:=(by have:=HS.out;omega);by_cases hlt:j<0+m.length
  ·by_cases h9:j=0+9
   ·have FR:j<s.size:=(by have:=HS.out;omega);obtain⟨c,e,d,-⟩:=hm.digit FR hj0 hlt;have d1:=d.1;have FO:((c.toNat:Int) != 47)=true:=(by rw [bne_iff_ne];omega);have IE:(((j:Int)) == 9)=true:=(by rw [beq_iff_eq];omega);have KN:(j:Int)<(s.size:Int):=(by omega);have IL:(0:Int)<=(j:Int):=(by omega);have HV:Hid (EB false m m2=.tuple #[.int .i64 0,.int .i64 0,.bool false]):=AmU (Qd (.inl (by omega)));clear h9 d d1;go_wp2;go_ret3;exact⟨Io HV.out,rfl⟩
   ·obtain⟨c,v,FR,e,d1,d2,FO,hv,JF,hn⟩:=hm.digit' hj0 hlt (by omega);have IE:(((j:Int)) == 9)=false:=(by rw [beq_eq_false_iff_ne];omega);have KN:(j:Int)<(s.size:Int):=(by omega);have IL:(0:Int)<=(j:Int):=(by omega);rw [←hv];have HN:=AmU hn;clear hv hn;go_wp2
    go_round
    case rel=>exact⟨j+1,by omega,by omega,by omega,rfl,by go_num,by rw [HN.out]⟩
    case measure=>simp [intOf];omega
  ·have FQ:j=0+m.length:=(by omega);have ht:m.take (j-0)=m:=by rw [FQ];simp
   have JF:((val m:Nat):Int)<=999999999:=by have h1:=JY hm.all;have h2:10^m.length<=10^9:=Nat.pow_le_pow_right (by omega) (by omega);have h3:(10:Nat)^9=1000000000:=(by decide);omega
   have BX:m.length<=9:=(by omega);rw [ht];have IL:(0:Int)<=(j:Int):=(by omega);have FR:j<s.size:=(by have:=HS.out;omega);have KN:(j:Int)<(s.size:Int):=(by omega);obtain⟨c,hc⟩:=AmT (47:UInt8);have e:s[j]=c:=(by rw [hc];obtain⟨_,e⟩:=hq;simp only [FQ];exact e);have FO:((c.toNat:Int) != 47)=false:=(by rw [hc];rfl);have CZ:((j:Int) == (s.size:Int))=false:=(by rw [beq_eq_false_iff_ne];omega);have hsz:s.size=j+1+m2.length:=(by have:=HS.out;omega);have Jo:=AmU hsz;rw [←FQ]at Gv;have hjb:j<=0+9:=Mv;clear ht FQ hlt hc hsz;go_wp2;clear FO e CZ
   go_loop [2,3,5] (fun z n i=>∃k:Nat,j+1<=k/\k<=j+1+m2.length/\k<=j+1+9/\z=.int .i64 ((val m:Int))/\i=.int .i64 (k:Nat)/\n=.int .i64 (val (m2.take (k-(j+1))):Nat)) (fun _ _ i=>s.size-(intOf i).toNat)
   case atStart=>exact⟨j+1,by omega,by omega,by omega,rfl,by go_num,by simp [JZ]⟩
   case round=>
    obtain⟨k,hk0,Ci,NK,rfl,rfl,rfl⟩:=hrel;have Aem:k<=s.size:=(by have:=Jo.out;omega);by_cases hlt2:k<j+1+m2.length
    ·by_cases h9:k=j+1+9
     ·have IM:k<s.size:=(by have:=Jo.out;omega);have IE:((k:Int)-((j:Int)+1) == 9)=true:=(by rw [beq_iff_eq];omega);have bQ:(k:Int)<(s.size:Int):=(by omega);have bH:(0:Int)<=(k:Int):=(by omega);have HV:Hid (EB false m m2=.tuple #[.int .i64 0,.int .i64 0,.bool false]):=AmU (Qd (.inr (by omega)));clear h9;go_wp2;go_ret3;exact⟨Io HV.out,rfl⟩
     ·obtain⟨c,v,IM,e,d1,d2,FO,hv,Afa,hn⟩:=Gv.digit' hk0 hlt2 (by omega);have IE:((k:Int)-((j:Int)+1) == 9)=false:=(by rw [beq_eq_false_iff_ne];omega);have bQ:(k:Int)<(s.size:Int):=(by omega);have bH:(0:Int)<=(k:Int):=(by omega);rw [←hv];have HN:=AmU hn;clear hv hn FO;go_wp2
      go_round
      case rel=>exact⟨k+1,by omega,by omega,by omega,rfl,by go_num,by rw [HN.out]⟩
      case measure=>simp [intOf];omega
    ·have Sk:k=j+1+m2.length:=(by omega);have M6:m2.take (k-(j+1))=m2:=(by rw [Sk];simp);have HV:Hid (EB false m m2=.tuple #[.int .i64 ((val m:Int)),.int .i64 (val m2:Nat),.bool true]):=AmU (WN BX (by omega));have hle:(s.size:Int)<=(k:Int):=(by have:=Jo.out;omega);rw [M6];clear M6 Sk hlt2;go_wp2;go_ret3;exact⟨Io HV.out,rfl⟩
theorem Aip(s:ByteArray)(m:Bs)(hm:Seg s 1 m)(hs:s.size=1+m.length)(hmax:s.size<=100000)(h0:0<m.length)(hc:∃(h:0<s.size),s[0]=45)(w:World) :
  Calls Tryz.prog 142 #[.string s] w (fun e w'=>e=.returned (EB true m [49])/\w=w'):=by
 have hp:(0:Int)<(s.size:Int):=(by omega);obtain⟨hs0,e0⟩:=hc;obtain⟨c0,hc0⟩:=AmT (45:UInt8);rw [←hc0]at e0;have hc:((c0.toNat:Int) == 45)=true:=(by rw [hc0];rfl);clear hc0;have HS:=AmU hs;clear hs;go_enter Tryz.func142,Tryz.ntmps142;go_wp2;clear hc e0 hp
 go_loop [2,3,5] (fun n z i=>∃j:Nat,1<=j/\j<=1+m.length/\j<=1+9/\z=.int .i64 0/\i=.int .i64 (j:Nat)/\n=.int .i64 (val (m.take (j-1)):Nat)) (fun _ _ i=>s.size-(intOf i).toNat)
 case atStart=>exact⟨1,by omega,by omega,by omega,rfl,rfl,by simp [JZ]⟩
 case round=>
  obtain⟨j,hj0,Ms,Mv,rfl,rfl,rfl⟩:=hrel;have bG:j<=s.size:=(by have:=HS.out;omega);by_cases hlt:j<1+m.length
  ·by_cases h9:j=1+9
   ·have FR:j<s.size:=(by have:=HS.out;omega);obtain⟨c,e,d,-⟩:=hm.digit FR hj0 hlt;have d1:=d.1;have FO:((c.toNat:Int) != 47)=true:=(by rw [bne_iff_ne];omega);have IE:(((j:Int)-1) == 9)=true:=(by rw [beq_iff_eq];omega);have KN:(j:Int)<(s.size:Int):=(by omega);have IL:(0:Int)<=(j:Int):=(by omega);have HV:Hid (EB true m [49]=.tuple #[.int .i64 0,.int .i64 0,.bool false]):=AmU (Qd (.inl (by omega)));clear h9 d d1;go_wp2;go_ret3;exact⟨Io HV.out,rfl⟩
   ·obtain⟨c,v,FR,e,d1,d2,FO,hv,JF,hn⟩:=hm.digit' hj0 hlt (by omega);have IE:(((j:Int)-1) == 9)=false:=(by rw [beq_eq_false_iff_ne];omega);have KN:(j:Int)<(s.size:Int):=(by omega);have IL:(0:Int)<=(j:Int):=(by omega);rw [←hv];have HN:=AmU hn;clear hv hn;go_wp2
    go_round
    case rel=>exact⟨j+1,by omega,by omega,by omega,rfl,by go_num,by rw [HN.out]⟩
    case measure=>simp [intOf];omega
  ·have FQ:j=1+m.length:=(by omega);have ht:m.take (j-1)=m:=by rw [FQ];simp
   have JF:((val m:Nat):Int)<=999999999:=by have h1:=JY hm.all;have h2:10^m.length<=10^9:=Nat.pow_le_pow_right (by omega) (by omega);have h3:(10:Nat)^9=1000000000:=(by decide);omega
   have BX:m.length<=9:=(by omega);rw [ht];have IL:(0:Int)<=(j:Int):=(by omega);have hle:(s.size:Int)<=(j:Int):=(by have:=HS.out;omega);have CZ:((j:Int) == (s.size:Int))=true:=(by rw [beq_iff_eq];have:=HS.out;omega);have HV:Hid (EB true m [49]=.tuple #[.int .i64 (-(val m:Int)),.int .i64 1,.bool true]):=AmU (WN BX (by simp));clear ht FQ hlt;go_wp2;go_ret3;exact⟨Io HV.out,rfl⟩
theorem Ain(s:ByteArray)(m m2:Bs)(hm:Seg s 1 m)(Gv:Seg s (1+m.length+1) m2)(hs:s.size=1+m.length+1+m2.length)(h2:0<m2.length)(hq:∃h:1+m.length<s.size,s[1+m.length]=47)(hmax:s.size<=100000)(h0:0<m.length)(hc:∃(h:0<s.size),s[0]=45)(w:World) :
  Calls Tryz.prog 142 #[.string s] w (fun e w'=>e=.returned (EB true m m2)/\w=w'):=by
 have hp:(0:Int)<(s.size:Int):=(by omega);obtain⟨hs0,e0⟩:=hc;obtain⟨c0,hc0⟩:=AmT (45:UInt8);rw [←hc0]at e0;have hc:((c0.toNat:Int) == 45)=true:=(by rw [hc0];rfl);clear hc0;have HS:=AmU hs;clear hs;go_enter Tryz.func142,Tryz.ntmps142;go_wp2;clear hc e0 hp
 go_loop [2,3,5] (fun n z i=>∃j:Nat,1<=j/\j<=1+m.length/\j<=1+9/\z=.int .i64 0/\i=.int .i64 (j:Nat)/\n=.int .i64 (val (m.take (j-1)):Nat)) (fun _ _ i=>s.size-(intOf i).toNat)
 case atStart=>exact⟨1,by omega,by omega,by omega,rfl,rfl,by simp [JZ]⟩
 case round=>
  obtain⟨j,hj0,Ms,Mv,rfl,rfl,rfl⟩:=hrel;have bG:j<=s.size:=(by have:=HS.out;omega);by_cases hlt:j<1+m.length
  ·by_cases h9:j=1+9
   ·have FR:j<s.size:=(by have:=HS.out;omega);obtain⟨c,e,d,-⟩:=hm.digit FR hj0 hlt;have d1:=d.1;have FO:((c.toNat:Int) != 47)=true:=(by rw [bne_iff_ne];omega);have IE:(((j:Int)-1) == 9)=true:=(by rw [beq_iff_eq];omega);have KN:(j:Int)<(s.size:Int):=(by omega);have IL:(0:Int)<=(j:Int):=(by omega);have HV:Hid (EB true m m2=.tuple #[.int .i64 0,.int .i64 0,.bool false]):=AmU (Qd (.inl (by omega)));clear h9 d d1;go_wp2;go_ret3;exact⟨Io HV.out,rfl⟩
   ·obtain⟨c,v,FR,e,d1,d2,FO,hv,JF,hn⟩:=hm.digit' hj0 hlt (by omega);have IE:(((j:Int)-1) == 9)=false:=(by rw [beq_eq_false_iff_ne];omega);have KN:(j:Int)<(s.size:Int):=(by omega);have IL:(0:Int)<=(j:Int):=(by omega);rw [←hv];have HN:=AmU hn;clear hv hn;go_wp2
    go_round
    case rel=>exact⟨j+1,by omega,by omega,by omega,rfl,by go_num,by rw [HN.out]⟩
    case measure=>simp [intOf];omega
  ·have FQ:j=1+m.length:=(by omega);have ht:m.take (j-1)=m:=by rw [FQ];simp
   have JF:((val m:Nat):Int)<=999999999:=by have h1:=JY hm.all;have h2:10^m.length<=10^9:=Nat.pow_le_pow_right (by omega) (by omega);have h3:(10:Nat)^9=1000000000:=(by decide);omega
   have BX:m.length<=9:=(by omega);rw [ht];have IL:(0:Int)<=(j:Int):=(by omega);have FR:j<s.size:=(by have:=HS.out;omega);have KN:(j:Int)<(s.size:Int):=(by omega);obtain⟨c,hc⟩:=AmT (47:UInt8);have e:s[j]=c:=(by rw [hc];obtain⟨_,e⟩:=hq;simp only [FQ];exact e);have FO:((c.toNat:Int) != 47)=false:=(by rw [hc];rfl);have CZ:((j:Int) == (s.size:Int))=false:=(by rw [beq_eq_false_iff_ne];omega);have hsz:s.size=j+1+m2.length:=(by have:=HS.out;omega);have Jo:=AmU hsz;rw [←FQ]at Gv;have hjb:j<=1+9:=Mv;clear ht FQ hlt hc hsz;go_wp2;clear FO e CZ
   go_loop [2,3,5] (fun z n i=>∃k:Nat,j+1<=k/\k<=j+1+m2.length/\k<=j+1+9/\z=.int .i64 (-(val m:Int))/\i=.int .i64 (k:Nat)/\n=.int .i64 (val (m2.take (k-(j+1))):Nat)) (fun _ _ i=>s.size-(intOf i).toNat)
   case atStart=>exact⟨j+1,by omega,by omega,by omega,rfl,by go_num,by simp [JZ]⟩
   case round=>
    obtain⟨k,hk0,Ci,NK,rfl,rfl,rfl⟩:=hrel;have Aem:k<=s.size:=(by have:=Jo.out;omega);by_cases hlt2:k<j+1+m2.length
    ·by_cases h9:k=j+1+9
     ·have IM:k<s.size:=(by have:=Jo.out;omega);have IE:((k:Int)-((j:Int)+1) == 9)=true:=(by rw [beq_iff_eq];omega);have bQ:(k:Int)<(s.size:Int):=(by omega);have bH:(0:Int)<=(k:Int):=(by omega);have HV:Hid (EB true m m2=.tuple #[.int .i64 0,.int .i64 0,.bool false]):=AmU (Qd (.inr (by omega)));clear h9;go_wp2;go_ret3;exact⟨Io HV.out,rfl⟩
     ·obtain⟨c,v,IM,e,d1,d2,FO,hv,Afa,hn⟩:=Gv.digit' hk0 hlt2 (by omega);have IE:((k:Int)-((j:Int)+1) == 9)=false:=(by rw [beq_eq_false_iff_ne];omega);have bQ:(k:Int)<(s.size:Int):=(by omega);have bH:(0:Int)<=(k:Int):=(by omega);rw [←hv];have HN:=AmU hn;clear hv hn FO;go_wp2
      go_round
      case rel=>exact⟨k+1,by omega,by omega,by omega,rfl,by go_num,by rw [HN.out]⟩
      case measure=>simp [intOf];omega
    ·have Sk:k=j+1+m2.length:=(by omega);have M6:m2.take (k-(j+1))=m2:=(by rw [Sk];simp);have HV:Hid (EB true m m2=.tuple #[.int .i64 (-(val m:Int)),.int .i64 (val m2:Nat),.bool true]):=AmU (WN BX (by omega));have hle:(s.size:Int)<=(k:Int):=(by have:=Jo.out;omega);rw [M6];clear M6 Sk hlt2;go_wp2;go_ret3;exact⟨Io HV.out,rfl⟩
theorem QM(l:Bs)(j:Nat)(h:j<(⟨l.toArray⟩:ByteArray).size):(⟨l.toArray⟩:ByteArray)[j]=l.getD j 0:=by
 have h':j<l.length:=(by simpa [ByteArray.size]using h);rw [ByteArray.getElem_eq_getElem_data];simp [List.getD,h']
theorem Fp(l:Bs):(⟨l.toArray⟩:ByteArray).size=l.length:=by simp [ByteArray.size]
theorem Qk(pre m suf:Bs)(hm:BA m):Seg ⟨(pre++m++suf).toArray⟩ pre.length m:=
 ⟨by rw [Fp];simp,hm,fun j h h1 h2=>by
  rw [QM];simp only [List.getD_eq_getElem?_getD]
  rw [List.append_assoc,List.getElem?_append_right h1,List.getElem?_append_left (by omega)]⟩
theorem Ail(q:Rat):Qb q=EB (decide (q<0)) (D q.num.natAbs) (D q.den):=by
 unfold Qb EB
 split
 ·rw [Iu,Iu];by_cases h:q<0
  ·have:=IZ.2 h;simp only [h,decide_true,if_true]
   congr 4;omega
  ·have:¬q.num<0:=fun k=>h (IZ.1 k);simp only [h,decide_false,Bool.false_eq_true,if_false]
   congr 4;omega
 ·rfl
theorem TD:D 1 = [49]:=by rw [EE (by omega)];rfl
theorem TT{z:Int} : (z<0→I z=45::D z.natAbs)/\(¬z<0→I z=D z.natAbs):=by
 constructor
 ·intro h
  rcases DT z with⟨n,rfl,e⟩|⟨n,hn,rfl,e⟩
  ·omega
  ·rw [e];simp
 ·intro h
  rcases DT z with⟨n,rfl,e⟩|⟨n,hn,rfl,e⟩
  ·rw [e];simp
  ·omega
theorem Ai5(q:Rat)(hl:(R q).length<=100000)(w:World):Calls Tryz.prog 142 #[S (R q)] w (fun e w'=>e=.returned (Qb q)/\w=w'):=by
 rw [Ail];have hp:=TC q.num.natAbs;have KT:=TC q.den;by_cases hd:q.den=1
 ·rw [QC hd]at hl ⊢;rw [hd,TD];by_cases hn:q.num<0
  ·rw [TT.1 hn]at hl ⊢;rw [decide_eq_true (IZ.1 hn)];have h:=Qk [45] (D q.num.natAbs) [] (D7 _);simp only [List.append_nil,List.singleton_append,List.length_singleton]at h;exact Aip _ _ h (by rw [Fp];simp;omega) (by rw [Fp];exact hl) hp ⟨by rw [Fp];simp,rfl⟩ w
  ·rw [TT.2 hn]at hl ⊢;rw [decide_eq_false (fun k=>hn (IZ.2 k))];have h:=Qk [] (D q.num.natAbs) [] (D7 _);simp only [List.append_nil,List.nil_append,List.length_nil]at h;exact Aio _ _ h (by rw [Fp];simp) (by rw [Fp];exact hl) hp w
 ·rw [TZ hd]at hl ⊢;by_cases hn:q.num<0
  ·rw [TT.1 hn]at hl ⊢;rw [decide_eq_true (IZ.1 hn)];have h:=Qk [45] (D q.num.natAbs) (47::D q.den) (D7 _);have h2:=Qk (45::D q.num.natAbs ++ [47]) (D q.den) [] (D7 _);simp only [List.append_nil,List.length_singleton,List.append_assoc,List.cons_append]at h h2;rw [show (45::(D q.num.natAbs ++ [47])).length=1+(D q.num.natAbs).length+1 by simp;omega]at h2;exact Ain _ _ _ h h2 (by rw [Fp];simp;omega) KT ⟨by rw [Fp];simp;omega,by rw [QM];simp [List.getD,Nat.add_comm 1]⟩ (by rw [Fp];exact hl) hp ⟨by rw [Fp];simp,rfl⟩ w
  ·rw [TT.2 hn]at hl ⊢;rw [decide_eq_false (fun k=>hn (IZ.2 k))];have h:=Qk [] (D q.num.natAbs) (47::D q.den) (D7 _);have h2:=Qk (D q.num.natAbs ++ [47]) (D q.den) [] (D7 _);simp only [List.append_nil,List.nil_append,List.length_nil,List.append_assoc,List.cons_append]at h h2;rw [show List.length (D q.num.natAbs ++ [(47:UInt8)])=0+(D q.num.natAbs).length+1 by simp]at h2;exact Aim _ _ _ h h2 (by rw [Fp];simp;omega) KT ⟨by rw [Fp];simp,by rw [QM];simp [List.getD]⟩ (by rw [Fp];exact hl) hp w
def az(l:List Int)(i:Nat):Int:=l.getD i 0
def zs(l:List Int):List Value:=l.map fun x=>.int .i64 x
def zn(l:List Nat):List Int:=l.map fun (x:Nat)=>(x:Int)
theorem qz(l:List Nat):(zn l).length=l.length:=by simp [zn]
theorem Aaj(l:List Nat)(i:Nat):az (zn l) i=(Ah l i:Nat):=by
 unfold az zn Ah;rw [List.getD_eq_getElem?_getD,List.getD_eq_getElem?_getD,List.getElem?_map]
 cases l[i]?<;>rfl
theorem q8{l:List Int}{j:Nat}(h:j<l.length):(zs l)[j]?=some (.int .i64 (az l j)):=by
 unfold zs az;rw [List.getElem?_map,List.getD_eq_getElem?_getD,Anc h];rfl
def CQ:List Int→Int
 | []=>0
 | x::l=>x+10000*CQ l
theorem gm:∀l:List Nat,CQ (zn l)=(Ag 10000 l:Nat)
 | []=>rfl
 | x::l=>by have e:zn (x::l)=(x:Int)::zn l:=rfl;rw [e,CQ,Ag,gm l];omega
theorem Ahf(l m:List Int):CQ (l++m)=CQ l+10000^l.length*CQ m:=by
 induction l with
 | nil=>simp [CQ]
 | cons x l ih=>simp only [List.cons_append,CQ,ih,List.length_cons,Int.pow_succ,Int.mul_add];rw [Int.mul_comm ((10000:Int)^l.length) 10000,Int.mul_assoc];omega
theorem gj(l:List Int)(x:Int):CQ (l ++ [x])=CQ l+10000^l.length*x:=by rw [Ahf];simp [CQ]
theorem gi:∀{l:List Int} {j:Nat} (y:Int),j<l.length→CQ (l.set j y)=CQ l+10000^j*(y-az l j)
 | x::l,0,y,_=>by simp [CQ,az];omega
 | x::l,j+1,y,h=>by have ih:=gi (l:=l) (j:=j) y (by simpa using h);have e:az (x::l) (j+1)=az l j:=(by simp [az]);rw [List.set_cons_succ,CQ,CQ,ih,e,Int.mul_add,Int.pow_succ,Int.mul_comm ((10000:Int)^j) 10000,Int.mul_assoc];omega
theorem AjW{l:List Int}{k:Nat}(h:k<l.length):l.take (k+1)=l.take k ++ [az l k]:=by
 rw [Ana h];simp [az,h]
theorem Tm(n:Nat):((10000:Int)^n)=((10000^n:Nat):Int):=by simp
/-! ### carry -/
def cB:Int:=1000000000000000
structure Kb(l:List Int)(i:Nat)(out:List Nat)(over:Int):Prop where
 len:out.length=i
 lt:∀x∈out,x<10000
 lo:-1000000000000000<=over
 hi:over<=1000000000000000
 sum:(Ag 10000 out:Int)+10000^i*over=CQ (l.take i)
theorem Kb.start(l:List Int):Kb l 0 [] 0:=⟨rfl,by simp,by omega,by omega,by simp [Ag,CQ]⟩
theorem Kb.step{l:List Int}{i:Nat}{out:List Nat}{over x s:Int}{n:Nat}(h:Kb l i out over)(hx:x=if i<l.length then az l i else 0)(hs:s=over+x)(hb1:-1000000000000000<=x)(hb2:x<=1000000000000000)(hn:(n:Int)=s%10000) :
  Kb l (i+1) (out ++ [n]) ((s-n)/10000):=by
 have hl:=h.lo;have hh:=h.hi;refine⟨by rw [List.length_append,h.len];rfl,?_,by omega,by omega,?_⟩
 ·intro y hy
  rcases List.mem_append.1 hy with hy|hy
  ·exact h.lt y hy
  ·simp at hy;subst hy;omega
 ·have e1:CQ (l.take (i+1))=CQ (l.take i)+10000^i*x:=by
   by_cases hi:i<l.length
   ·rw [if_pos hi]at hx;rw [AjW hi,gj,List.length_take,Nat.min_eq_left (by omega),hx]
   ·rw [if_neg hi]at hx;rw [Ang (by omega),Ang (by omega),hx];simp
  have Ev:=h.sum;rw [e1,←Ev,FZ,h.len,Int.pow_succ];have e2:s=n+10000*((s-n)/10000):=(by omega);rw [Int.natCast_add,Int.natCast_mul,←Tm,Int.mul_assoc,Int.add_assoc,Int.add_assoc,←Int.mul_add,←Int.mul_add,←hs,←e2]
theorem Kb.room{l:List Int}{i M:Nat}{out:List Nat}{over:Int}(h:Kb l i out over)(hi:l.length<=i)(hp:0<over)(hM:CQ l<10000^M):i<M:=by
 have hs:=h.sum;rw [Ang hi]at hs;have h2:(10000:Int)^i*1<=10000^i*over:=Int.mul_le_mul_of_nonneg_left (by omega) (by rw [Tm];exact Int.natCast_nonneg _)
 have h5:((10000^i:Nat):Int)<((10000^M:Nat):Int):=by rw [←Tm,←Tm];generalize (10000:Int)^i=P at *;generalize (10000:Int)^M=R at *;generalize P*over=T at *;omega
 exact(Nat.pow_lt_pow_iff_right (by omega)).1 (Int.ofNat_lt.1 h5)
theorem Kb.done{l:List Int}{i N:Nat}{out:List Nat}(h:Kb l i out 0)(hi:l.length<=i)(hN:CQ l=(N:Int)):Ag 10000 out=N:=by
 have hs:=h.sum;rw [Ang hi]at hs;simp at hs;omega
/-! ### joined -/
structure Jr(p q:List Nat)(k:Int)(i:Nat)(out:List Int):Prop where
 le:i<=q.length
 len:i<=out.length
 len2:out.length<=p.length+i+1
 bd:∀j,-100000000*(10000:Int)<=az out j/\az out j<=100000000*10000
 bd2:∀j,i<=j→0<=az out j/\az out j<10000
 sum:CQ out=(Ag 10000 p:Int)+k*(Ag 10000 (q.take i):Nat)
theorem Aai{l:List Int}{j:Nat}(h:l.length<=j):az l j=0:=by unfold az;rw [List.getD_eq_getElem?_getD,List.getElem?_eq_none h];rfl
theorem mT{p:List Nat}(hp:∀x∈p,x<10000)(j:Nat):0<=az (zn p) j/\az (zn p) j<10000:=by
 by_cases h:j<p.length
 ·rw [Aaj];have:=Cd hp h;omega
 ·rw [Aai (by rw [qz];omega)];omega
theorem Jr.start{p:List Nat}(hp:∀x∈p,x<10000)(q:List Nat)(k:Int):Jr p q k 0 (zn p):=
 ⟨by omega,by omega,by rw [qz];omega,fun j=>by have:=mT hp j;omega,fun j _=>mT hp j,by rw [gm];simp [Ag]⟩
theorem mS(l:List Int)(j:Nat):az (l ++ [0]) j=az l j:=by
 unfold az;rw [List.getD_eq_getElem?_getD,List.getD_eq_getElem?_getD]
 rcases Nat.lt_trichotomy j l.length with h|h|h
 ·rw [List.getElem?_append_left h]
 ·subst h;rw [List.getElem?_append_right (by omega),List.getElem?_eq_none (AmX _)];simp
 ·rw [List.getElem?_eq_none (by simp;omega),List.getElem?_eq_none (by omega)]
theorem Jr.grow{p q:List Nat}{k:Int}{i:Nat}{out:List Int}(h:Jr p q k i out)(hl:out.length<=i):Jr p q k i (out ++ [0]):=
 ⟨h.le,by have:=h.len;simp;omega,by have:=h.len;have:=h.len2;simp at *;omega,fun j=>by rw [mS];exact h.bd j,fun j hj=>by rw [mS];exact h.bd2 j hj,by rw [gj,h.sum];simp⟩
theorem mR{l:List Int}{i:Nat}(y:Int)(hi:i<l.length)(j:Nat):az (l.set i y) j=if j=i then y else az l j:=by
 unfold az;rw [List.getD_eq_getElem?_getD,List.getD_eq_getElem?_getD];by_cases h:j=i
 ·subst h;rw [if_pos rfl,List.getElem?_set_self hi];rfl
 ·rw [if_neg h,List.getElem?_set_ne (by omega)]
theorem AgK{k:Int}{x:Nat}(h1:-10000<=k)(h2:k<=10000)(hx:x<10000):-100000000<=k*(x:Int)/\k*(x:Int)<=100000000:=by
 have a1:(-10000:Int)*x<=k*x:=Int.mul_le_mul_of_nonneg_right h1 (by omega);have a2:k*x<=(10000:Int)*x:=Int.mul_le_mul_of_nonneg_right h2 (by omega);omega
theorem Jr.step{p q:List Nat}{k:Int}{i:Nat}{out:List Int}(h:Jr p q k i out)(hi:i<q.length)(hl:i<out.length)(hq:∀x∈q,x<10000)(h1:-10000<=k)(h2:k<=10000) :
  Jr p q k (i+1) (out.set i (az out i+k*(Ah q i:Nat))):=by
 have hm:=AgK h1 h2 (Cd hq hi);refine⟨hi,by rw [List.length_set];omega,by have:=h.len2;rw [List.length_set];omega,fun j=>?_,fun j hj=>?_,?_⟩
 ·rw [mR _ hl]
  split
  ·have:=h.bd2 i (AmX _);omega
  ·exact h.bd j
 ·rw [mR _ hl,if_neg (by omega)];exact h.bd2 j (by omega)
 ·rw [gi _ hl,h.sum,Lz hi,FZ,List.length_take,Nat.min_eq_left (by omega),Int.natCast_add,Int.natCast_mul,←Tm,Int.mul_add];have e:az out i+k*(Ah q i:Nat)-az out i=k*(Ah q i:Nat):=(by omega);rw [e,Int.mul_left_comm,Int.add_assoc]
theorem Jr.done{p q:List Nat}{k:Int}{out:List Int}(h:Jr p q k q.length out):CQ out=(Ag 10000 p:Int)+k*(Ag 10000 q:Nat)/\(∀x∈out,-1000000000000000<=x/\x<=1000000000000000)/\out.length<=p.length+q.length+1:=by
 refine⟨by rw [h.sum,List.take_length],fun x hx=>?_,h.len2⟩;obtain⟨j,hj,rfl⟩:=List.getElem_of_mem hx;have:=h.bd j;have e:az out j=out[j]:=(by unfold az;rw [List.getD_eq_getElem?_getD,Anc hj];rfl);rw [e]at this;omega
/-! ### times -/
structure OB(n i k x:Nat)(q out:List Nat)(v:Nat):Prop where
 le:k<=q.length
 len:out.length=n
 bd:∀j,Ah out j<=(if j<i+k then i+1 else i)*100000000
 sum:Ag 10000 out=v+10000^i*(x*Ag 10000 (q.take k))
theorem mQ{l:List Nat}{i:Nat}(y:Nat)(hi:i<l.length)(j:Nat):Ah (l.set i y) j=if j=i then y else Ah l j:=by
 unfold Ah;rw [List.getD_eq_getElem?_getD,List.getD_eq_getElem?_getD];by_cases h:j=i
 ·subst h;rw [if_pos rfl,List.getElem?_set_self hi];rfl
 ·rw [if_neg h,List.getElem?_set_ne (by omega)]
theorem OB.step{n i k x v:Nat}{q out:List Nat}(h:OB n i k x q out v)(hk:k<q.length)(hn:i+k<n)(hx:x<10000)(hq:∀y∈q,y<10000) :
  OB n i (k+1) x q (out.set (i+k) (Ah out (i+k)+x*Ah q k)) v:=by
 have hl:=h.len;have hy:=Cd hq hk;have hm:x*Ah q k<=100000000:=Ani (Nat.mul_le_mul (Nat.le_of_lt hx) (Nat.le_of_lt hy)) (by omega);refine⟨hk,by rw [List.length_set];exact hl,fun j=>?_,?_⟩
 ·rw [mQ _ (by omega)];have h1:=h.bd j
  split
  ·subst j;rw [if_neg (by omega)]at h1;rw [if_pos (by omega)];omega
  ·by_cases hj:j<i+k
   ·rw [if_pos hj]at h1;rw [if_pos (by omega)];exact h1
   ·rw [if_neg hj]at h1;rw [if_neg (by omega)];exact h1
 ·have hs:=Tc (b:=10000) (l:=out) (j:=i+k) (Ah out (i+k)+x*Ah q k) (by omega);have h2:=h.sum;rw [Lz hk,FZ,List.length_take,Nat.min_eq_left (by omega),Nat.mul_add x,Nat.mul_add (10000^i)]
  have e:10000^i*(x*(10000^k*Ah q k))=10000^(i+k)*(x*Ah q k):=by rw [Nat.pow_add,Nat.mul_left_comm x,Nat.mul_assoc]
  rw [e];rw [Nat.mul_add]at hs;omega
theorem OB.next{n i x v:Nat}{p q out:List Nat}(h:OB n i q.length x q out v)(hx:x=Ah p i)(hi:i<p.length)(hv:v=Ag 10000 (p.take i)*Ag 10000 q)(y:Nat) :
  OB n (i+1) 0 y q out (Ag 10000 (p.take (i+1))*Ag 10000 q):=by
 refine⟨by omega,h.len,fun j=>?_,?_⟩
 ·have h1:=h.bd j;refine Ani h1 (Nat.mul_le_mul_right _ ?_);by_cases a:j<i+q.length
  ·rw [if_pos a];by_cases b:j<i+1+0
   ·rw [if_pos b];omega
   ·rw [if_neg b];omega
  ·rw [if_neg a];by_cases b:j<i+1+0
   ·rw [if_pos b];omega
   ·rw [if_neg b];omega
 ·rw [h.sum,List.take_length,hv,hx,Lz hi,FZ,List.length_take,Nat.min_eq_left (by omega),Nat.add_mul];simp [Ag,Nat.mul_assoc]
/-! ### parts: one digit of a quotient -/
theorem AaH{W:World}{b o:Nat}{cs:Array Value}{t:TypeId}{fz:Nat×Nat}{v:Value}(h:W.heap[b]?=some (.cells cs t fz))(hv:cs[o]?=some v):W.cell? ⟨b,o,none⟩=some v:=by
 unfold World.cell?;simp [h,hv]
structure Kj(w:World)(A:Option Addr)(c:Nat)(l:List Int):Prop where
 cap:l.length<=c
 max:c<=9223372036854775807
 len:l.length<=100000
 ad:0<l.length→∃b o,A=some ⟨b,o,none⟩/\∀j,j<l.length→w.cell? ⟨b,o+j,none⟩=some (.int .i64 (az l j))
def RZ(w:World)(v:Value)(l:List Int):Prop:=∃A c,v=.slice A l.length c/\Kj w A c l
theorem Kj.ext{w w':World}{A:Option Addr}{c:Nat}{l:List Int}(h:Kj w A c l)(hx:Aa w w'):Kj w' A c l:=
 ⟨h.cap,h.max,h.len,fun h0=>by
  obtain⟨b,o,e,hc⟩:=h.ad h0
  exact⟨b,o,e,fun j hj=>hx.cellS (hc j hj)⟩⟩
theorem RZ.ext{w w':World}{v:Value}{l:List Int}(h:RZ w v l)(hx:Aa w w'):RZ w' v l:=by
 obtain⟨A,c,e,h⟩:=h;exact⟨A,c,e,h.ext hx⟩
theorem RZ.nil(w:World):RZ w (.slice none 0 0) (zn []):=⟨none,0,rfl,by simp [zn],by omega,by simp [zn],fun h=>by simp [zn]at h⟩
theorem RZ.of_own{w:World}{base:Nat}{e:TypeId}{v:Value}{n:Nat}{l:List Int}(h:w.ownsRow base e 1 v n (zs l))(hn:n=l.length)(hl:l.length<=100000):RZ w v l:=by
 subst hn
 rcases h.2 with⟨rfl,h0⟩|⟨g,cap,cur,rfl,_,_,hn,hm,_,_⟩
 ·exact⟨none,0,by rw [h0],by omega,by omega,hl,fun h=>by omega⟩
 ·refine⟨some ⟨g,0,none⟩,cap,rfl,hn,hm,hl,fun _=>⟨g,0,rfl,fun j hj=>?_⟩⟩;have:=h.cells (g:=g) rfl j _ (q8 hj)
  rwa [Addr.add_lit]at this
theorem RZ.lit(w:World)(l:List Int)(t:TypeId)(hl:l.length<=100000):RZ (w.alloc (.cells (zs l).toArray t)) (.slice (some ⟨w.heap.size,0,none⟩) l.length l.length) l:=
 ⟨some ⟨w.heap.size,0,none⟩,l.length,rfl,AmX _,by omega,hl,fun _=>⟨w.heap.size,0,rfl,fun j hj=>by
  refine AaH (AmW w _) ?_;rw [Nat.zero_add,←Array.getElem?_toList]
  exact q8 hj⟩⟩
theorem Kj.take{w:World}{A:Option Addr}{c:Nat}{l:List Int}(h:Kj w A c l){k:Nat}(hk:k<=l.length):RZ w (.slice A k c) (l.take k):=by
 have e:(l.take k).length=k:=(by rw [List.length_take];omega);refine⟨A,c,by rw [e],by have:=h.cap;omega,h.max,by have:=h.len;omega,fun h0=>?_⟩;obtain⟨b,o,e1,hc⟩:=h.ad (by omega);refine⟨b,o,e1,fun j hj=>?_⟩
 have:az (l.take k) j=az l j:=by rw [e]at hj;simp [az,hj]
 rw [this];exact hc j (by omega)
theorem Tryz.infoI:(Tryz.prog.info? 3).map (fun i=>(i.zero,i.size,i.bytes))=some (some (.int .i64 0),1,8):=by kernel_rfl
theorem AgG(n:Nat)(hn:n<=200000)(c:Int)(hc:c=(n:Int))(W:World) :
  (Instr.makeSlice 69 (.int .i64 c) (.int .i64 c)).run Tryz.prog W=.ok (.slice (some ⟨W.heap.size,0,none⟩) n n) (W.alloc (.cells (madeCells #[.int .i64 0] n) 3)):=by
 subst hc;obtain⟨i0,hi,hz0,hz1,hz2⟩:=info_parts Tryz.infoI;have h:=run_make (P:=Tryz.prog) W 69 3 i0 (.int .i64 0) Tryz.underlying69 hi hz0 .i64 .i64 n n (by omega) (by omega) (by rw [hz2];omega) (by omega);rw [hz1,Nat.mul_one]at h;simp only [Int.toNat_natCast]at h;exact h
theorem iw(W:World)(base n:Nat)(hb:base<=W.heap.size)(hn:n<=200000) :
  (W.alloc (.cells (madeCells #[.int .i64 0] n) 3)).ownsRow base 3 1 (.slice (some ⟨W.heap.size,0,none⟩) n n) n (zs (zn (List.replicate n 0))):=by
 have h:=World.ownsRow_lit (w:=W) (base:=base) (e:=3) (size:=1) (madeCells #[.int .i64 0] n) n hb (by unfold maxLen;omega) (by rw [size_madeCells];omega);rw [toList_madeCells_one]at h
 simpa [zs,zn]using h
section
variable {ops : Array Oper} {rest : List Oper} {o : Oper} {a : Act} {Q : Exit → Act → World → Prop}
end
/-! ### take -/
structure QJ(n:Nat)(s:Bs)(e:Nat)(o:List Nat):Prop where
 le:e<=s.length
 lt:∀x∈o,x<10000
 len:e+o.length<=s.length
 sum:n=val (s.take e)*10000^o.length+Ag 10000 o
theorem QJ.start(s:Bs):QJ (val s) s s.length []:=⟨AmX _,by simp,by simp,by simp [Ag]⟩
theorem Aky{l:Bs}(h:BA l)(hl:l.length<=4):val l<10000:=by
 have h1:=JY h;have h2:10^l.length<=10^4:=Nat.pow_le_pow_right (by omega) hl;have h3:(10:Nat)^4=10000:=(by decide);omega
theorem QJ.step{n:Nat}{s:Bs}{e:Nat}{o:List Nat}(h:QJ n s e o)(ha:BA s)(h0:0<e):QJ n s (e-4) (o ++ [val ((s.take e).drop (e-4))]):=by
 have hd:BA ((s.take e).drop (e-4)):=mF (Yj ha e) _;have Dm:((s.take e).drop (e-4)).length=e-(e-4):=(by rw [List.length_drop,List.length_take,Nat.min_eq_left h.le]);have hv:=Aky hd (by omega);have hle:=h.le;refine⟨by omega,?_,by have:=h.len;rw [List.length_append,List.length_singleton];omega,?_⟩
 ·intro x hx
  rcases List.mem_append.1 hx with hx|hx
  ·exact h.lt x hx
  ·simp at hx;subst hx;exact hv
 ·have hs:val (s.take e)=val (s.take (e-4))*10000+val ((s.take e).drop (e-4)):=by
   conv=>lhs;rw [←List.take_append_drop (e-4) (s.take e)]
   rw [val_append,Dm,List.take_take,Nat.min_eq_left (by omega)];by_cases h4:4<=e
   ·rw [show e-(e-4)=4 by omega]
   ·rw [show e-4=0 by omega];simp [JZ]
  rw [FZ,List.length_append,List.length_singleton,Nat.pow_succ];have:=h.sum;rw [hs]at this;rw [this];generalize 10000^o.length=p;generalize val (s.take (e-4))=a;generalize val ((s.take e).drop (e-4))=b;rw [Nat.add_mul,Nat.mul_assoc,Nat.mul_comm 10000 p,Nat.mul_comm b p];omega
end Go.Proofs.YtbejphgbbpplbaaGreatDoor
