/- J03: Shelf RQ RQ2 Zed E1 E2. -/
import Derived.Shelf.Small.Bits
import Derived.Shelf.Small.Strs
import Derived.Shelf.Small.Wraps
import Derived.Shelf.Strconv.Itoa3
import Derived.Shelf.Strconv.ErrVar
import Derived.Shelf.Strconv.ErrVarAll
import Derived.Shelf.Strconv.ParseInt10All
import Derived.Shelf.Pu.ErrVarParseUint
import Derived.Shelf.Strings.Shaped
import Derived.Shelf.Bits.Mul64
import Derived.Shelf.Strings.BuilderCap
import Derived.Shelf.Slices.Turned
import Derived.Shelf.Slices.Clone
import Derived.Shelf.Slices.Delete
import Derived.Test.YtnddllipjippnaaGreatDoorJ02
import Derived.Deep.RegionHeld3
set_option maxRecDepth 100000
set_option maxHeartbeats 4000000
namespace Go.Proofs
open Go.Shelf
def Tryz.lays169_ren:Go.Shelf.Ren:=⟨fun|169=>264|n=>n,fun|70=>309|9=>9|0=>0|72=>311|37=>113|127=>338|3=>3|5=>5|n=>n,fun|n=>n⟩
theorem Tryz.lays169:Go.Proofs.Lays.n169 Tryz.prog Tryz.lays169_ren:={
 mixed:=by kernel_rfl
 f169:=Tryz.func264.trans (congrArg some (by kernel_rfl))
 t0:=Tryz.underlying0
 a0:=Tryz.isAgg0
 z0:=Tryz.sizeOf0
 v0:=Tryz.zeroValue0
 t3:=Tryz.underlying3
 a3:=Tryz.isAgg3
 z3:=Tryz.sizeOf3
 v3:=Tryz.zeroValue3
 t9:=Tryz.underlying9
 a9:=Tryz.isAgg9
 z9:=Tryz.sizeOf9
 v9:=Tryz.zeroValue9
 t37:=Tryz.underlying113
 a37:=Tryz.isAgg113
 z37:=Tryz.sizeOf113
 v37:=Tryz.zeroValue113
 t70:=Tryz.underlying309
 a70:=Tryz.isAgg309
 z70:=Tryz.sizeOf309
 v70:=Tryz.zeroValue309
 t72:=Tryz.underlying311
 a72:=Tryz.isAgg311
 z72:=Tryz.sizeOf311
 v72:=Tryz.zeroValue311
 t127:=Tryz.underlying338
 a127:=Tryz.isAgg338
 z127:=Tryz.sizeOf338
 v127:=Tryz.zeroValue338}
theorem Tryz.Builder_Extra_169:Builder.Extra Tryz.prog Tryz.lays169_ren:={
 sizeBuilder:=by kernel_rfl
 liesBuilder:=by kernel_rfl
 t5:=Tryz.underlying5
 a5:=Tryz.isAgg5
 z5:=Tryz.sizeOf5
 v5:=Tryz.zeroValue5
 infoByte:=by kernel_rfl
 cellsByte:=by kernel_rfl
 sizeByte:=by kernel_rfl
 neB5:=by decide}
def Tryz.lays106_ren:Go.Shelf.Ren:=⟨fun|106=>204|213=>254|265=>290|n=>n,fun|9=>9|3=>3|n=>n,fun|n=>n⟩
theorem Tryz.lays106:Go.Proofs.Lays.n106 Tryz.prog Tryz.lays106_ren:={
 mixed:=by kernel_rfl
 f106:=Tryz.func204.trans (congrArg some (by kernel_rfl))
 f213:=Tryz.func254.trans (congrArg some (by kernel_rfl))
 f265:=Tryz.func290.trans (congrArg some (by kernel_rfl))
 t3:=Tryz.underlying3
 a3:=Tryz.isAgg3
 z3:=Tryz.sizeOf3
 v3:=Tryz.zeroValue3
 t9:=Tryz.underlying9
 a9:=Tryz.isAgg9
 z9:=Tryz.sizeOf9
 v9:=Tryz.zeroValue9}
open Go.RowKit in
theorem Tryz.strings_Compare(a b:ByteArray)(w:World) :
  Calls Tryz.prog 204 #[.string a,.string b] w fun e w'=>e=.returned (.int .i64 (Lib.compareBytes a.data.toList b.data.toList))/\w'=w:=Any.strings_Compare Tryz.lays106 a b w
def Tryz.lays103_ren:Go.Shelf.Ren:=⟨fun|103=>201|210=>251|206=>289|n=>n,fun|9=>9|4=>4|24=>265|3=>3|n=>n,fun|n=>n⟩
theorem Tryz.lays103:Go.Proofs.Lays.n103 Tryz.prog Tryz.lays103_ren:={
 mixed:=by kernel_rfl
 f103:=Tryz.func201.trans (congrArg some (by kernel_rfl))
 f206:=Tryz.func289.trans (congrArg some (by kernel_rfl))
 f210:=Tryz.func251.trans (congrArg some (by kernel_rfl))
 t3:=Tryz.underlying3
 a3:=Tryz.isAgg3
 z3:=Tryz.sizeOf3
 v3:=Tryz.zeroValue3
 t4:=Tryz.underlying4
 a4:=Tryz.isAgg4
 z4:=Tryz.sizeOf4
 v4:=Tryz.zeroValue4
 t9:=Tryz.underlying9
 a9:=Tryz.isAgg9
 z9:=Tryz.sizeOf9
 v9:=Tryz.zeroValue9
 t24:=Tryz.underlying265
 a24:=Tryz.isAgg265
 z24:=Tryz.sizeOf265
 v24:=Tryz.zeroValue265}
open Go.RowKit in
theorem Tryz.strings_CutPrefix(s p:ByteArray)(w:World) :
  Calls Tryz.prog 201 #[.string s,.string p] w fun e w'=>e=.returned (.tuple #[.string ⟨(Lib.trimPrefix s.data.toList p.data.toList).toArray⟩,.bool (Lib.hasPrefix s.data.toList p.data.toList)])/\w'=w:=Any.strings_CutPrefix Tryz.lays103 s p w
open Go.RowKit in
theorem Tryz.Builder_String_any_k(B b:Nat)(l:List UInt8)(w:World)(h:Lib.IsBuilderF 311 5 B b (Lib.byteCells l) w)(I5:B<=w.heap.size) :
  Calls Tryz.prog 264 #[.pointer (some ⟨b,0,none⟩)] w fun e w'=>e=.returned (.string ⟨l.toArray⟩)/\(Lib.IsBuilderF 311 5 B b (Lib.byteCells l) w'/\Below B w w'/\Lib.OthersKept 5 (some b) w w'):=Any.Builder_String_any_k Tryz.lays169 Tryz.Builder_Extra_169 B b l w h I5
def Tryz.lays283_ren:Go.Shelf.Ren:=⟨fun|283=>281|n=>n,fun|3=>3|9=>9|4=>4|n=>n,fun|n=>n⟩
theorem Tryz.lays283:Go.Proofs.Lays.n283 Tryz.prog Tryz.lays283_ren:={
 mixed:=by kernel_rfl
 f283:=Tryz.func281.trans (congrArg some (by kernel_rfl))
 t3:=Tryz.underlying3
 a3:=Tryz.isAgg3
 z3:=Tryz.sizeOf3
 v3:=Tryz.zeroValue3
 t4:=Tryz.underlying4
 a4:=Tryz.isAgg4
 z4:=Tryz.sizeOf4
 v4:=Tryz.zeroValue4
 t9:=Tryz.underlying9
 a9:=Tryz.isAgg9
 z9:=Tryz.sizeOf9
 v9:=Tryz.zeroValue9}
open Go.Lib in
theorem Tryz.internal_strconv_small(i:Nat)(h:i<100)(w:World) :
  Calls Tryz.prog 281 #[.int .i64 i] w fun e w'=>e=.returned (.string ⟨(Lib.decDigits i).toArray⟩)/\w'=w:=Any.internal_strconv_small Tryz.lays283 i h w
def Tryz.laysM284_ren:Go.Shelf.Ren:=⟨fun|284=>282|129=>232|317=>299|318=>300|n=>n,fun|53=>179|3=>3|212=>348|0=>0|4=>4|46=>105|5=>5|9=>9|n=>n,fun|17=>3|n=>n⟩
theorem Tryz.laysM284:Go.Proofs.LaysM.n284 Tryz.prog Tryz.laysM284_ren:={
 mixed:=by kernel_rfl
 f129:=Tryz.func232.trans (congrArg some (by kernel_rfl))
 f284:=Tryz.func282.trans (congrArg some (by kernel_rfl))
 f317:=Tryz.func299.trans (congrArg some (by kernel_rfl))
 f318:=Tryz.func300.trans (congrArg some (by kernel_rfl))
 t0:=Tryz.underlying0
 a0:=Tryz.isAgg0
 z0:=Tryz.sizeOf0
 v0:=Tryz.zeroValue0
 t3:=Tryz.underlying3
 a3:=Tryz.isAgg3
 z3:=Tryz.sizeOf3
 v3:=Tryz.zeroValue3
 t4:=Tryz.underlying4
 a4:=Tryz.isAgg4
 z4:=Tryz.sizeOf4
 v4:=Tryz.zeroValue4
 t5:=Tryz.underlying5
 a5:=Tryz.isAgg5
 z5:=Tryz.sizeOf5
 v5:=Tryz.zeroValue5
 t9:=Tryz.underlying9
 a9:=Tryz.isAgg9
 z9:=Tryz.sizeOf9
 v9:=Tryz.zeroValue9
 t46:=Tryz.underlying105
 a46:=Tryz.isAgg105
 z46:=Tryz.sizeOf105
 v46:=Tryz.zeroValue105
 t53:=Tryz.underlying179
 a53:=Tryz.isAgg179
 z53:=Tryz.sizeOf179
 v53:=Tryz.zeroValue179
 t212:=Tryz.underlying348
 a212:=Tryz.isAgg348
 z212:=Tryz.sizeOf348
 v212:=Tryz.zeroValue348
 g17:=by kernel_rfl
 i0:=by kernel_rfl
 i3:=by kernel_rfl
 i4:=by kernel_rfl
 i5:=by kernel_rfl
 i9:=by kernel_rfl
 i46:=by kernel_rfl
 i53:=by kernel_rfl
 i212:=by kernel_rfl
 m17:=by kernel_rfl}
open Go.Lib in
theorem Tryz.internal_strconv_numDigits(u:Nat)(h1:1<=u)(h2:u<18446744073709551616)(w:World)(htab:Lib.TabIs Tryz.prog w "internal/strconv.uint64pow10" .u64 Lib.pow10Tab) :
  Calls Tryz.prog 282 #[.int .u64 u] w fun e w'=>e=.returned (.int .i64 (Lib.nDigits u))/\w'=w:=Any.internal_strconv_numDigits Tryz.laysM284 u h1 h2 w htab
def Tryz.lays285_ren:Go.Shelf.Ren:=⟨fun|285=>283|n=>n,fun|37=>113|53=>179|3=>3|4=>4|51=>176|9=>9|5=>5|0=>0|n=>n,fun|n=>n⟩
theorem Tryz.lays285:Go.Proofs.Lays.n285 Tryz.prog Tryz.lays285_ren:={
 mixed:=by kernel_rfl
 f285:=Tryz.func283.trans (congrArg some (by kernel_rfl))
 t0:=Tryz.underlying0
 a0:=Tryz.isAgg0
 z0:=Tryz.sizeOf0
 v0:=Tryz.zeroValue0
 t3:=Tryz.underlying3
 a3:=Tryz.isAgg3
 z3:=Tryz.sizeOf3
 v3:=Tryz.zeroValue3
 t4:=Tryz.underlying4
 a4:=Tryz.isAgg4
 z4:=Tryz.sizeOf4
 v4:=Tryz.zeroValue4
 t5:=Tryz.underlying5
 a5:=Tryz.isAgg5
 z5:=Tryz.sizeOf5
 v5:=Tryz.zeroValue5
 t9:=Tryz.underlying9
 a9:=Tryz.isAgg9
 z9:=Tryz.sizeOf9
 v9:=Tryz.zeroValue9
 t37:=Tryz.underlying113
 a37:=Tryz.isAgg113
 z37:=Tryz.sizeOf113
 v37:=Tryz.zeroValue113
 t51:=Tryz.underlying176
 a51:=Tryz.isAgg176
 z51:=Tryz.sizeOf176
 v51:=Tryz.zeroValue176
 t53:=Tryz.underlying179
 a53:=Tryz.isAgg179
 z53:=Tryz.sizeOf179
 v53:=Tryz.zeroValue179}
open Go.RowKit Go.Sort Go.Lib in
theorem Tryz.internal_strconv_formatBase10(blk off cap:Nat)(u:Nat)(d:Array UInt8)(w:World)(hH:Holds (fun (b:UInt8)=>Value.int .u8 (b.toNat:Int)) w blk off d)(hu:u<10^d.size)(OQ:u<18446744073709551616)(hsz:d.size<4611686018427387904) :
  Calls Tryz.prog 283 #[.slice (some ⟨blk,off,none⟩) d.size cap,.int .u64 u] w fun e w'=>e=.returned (.tuple #[])/\∃(n v':Nat) (dk:Array UInt8),w'=(putRow (fun (b:UInt8)=>Value.int .u8 (b.toNat:Int)) w blk off dk).drewN n/\FmtInv d.size u 0 v' dk:=Any.internal_strconv_formatBase10 Tryz.lays285 blk off cap u d w hH hu OQ hsz
def Tryz.laysM171_ren:Go.Shelf.Ren:=⟨fun|171=>161|243=>199|246=>249|283=>281|284=>282|285=>283|286=>284|129=>232|317=>299|318=>300|319=>301|320=>302|337=>308|338=>309|n=>n,fun|3=>3|9=>9|2=>2|4=>4|171=>332|0=>0|53=>179|37=>113|5=>5|173=>334|212=>348|51=>176|20=>20|213=>349|46=>105|232=>357|233=>358|n=>n,fun|17=>3|18=>4|19=>5|n=>n⟩
theorem Tryz.laysM171:Go.Proofs.LaysM.n171 Tryz.prog Tryz.laysM171_ren:={
 mixed:=by kernel_rfl
 f129:=Tryz.func232.trans (congrArg some (by kernel_rfl))
 f171:=Tryz.func161.trans (congrArg some (by kernel_rfl))
 f243:=Tryz.func199.trans (congrArg some (by kernel_rfl))
 f246:=Tryz.func249.trans (congrArg some (by kernel_rfl))
 f283:=Tryz.func281.trans (congrArg some (by kernel_rfl))
 f284:=Tryz.func282.trans (congrArg some (by kernel_rfl))
 f285:=Tryz.func283.trans (congrArg some (by kernel_rfl))
 f286:=Tryz.func284.trans (congrArg some (by kernel_rfl))
 f317:=Tryz.func299.trans (congrArg some (by kernel_rfl))
 f318:=Tryz.func300.trans (congrArg some (by kernel_rfl))
 f319:=Tryz.func301.trans (congrArg some (by kernel_rfl))
 f320:=Tryz.func302.trans (congrArg some (by kernel_rfl))
 f337:=Tryz.func308.trans (congrArg some (by kernel_rfl))
 f338:=Tryz.func309.trans (congrArg some (by kernel_rfl))
 t0:=Tryz.underlying0
 a0:=Tryz.isAgg0
 z0:=Tryz.sizeOf0
 v0:=Tryz.zeroValue0
 t2:=Tryz.underlying2
 a2:=Tryz.isAgg2
 z2:=Tryz.sizeOf2
 v2:=Tryz.zeroValue2
 t3:=Tryz.underlying3
 a3:=Tryz.isAgg3
 z3:=Tryz.sizeOf3
 v3:=Tryz.zeroValue3
 t4:=Tryz.underlying4
 a4:=Tryz.isAgg4
 z4:=Tryz.sizeOf4
 v4:=Tryz.zeroValue4
 t5:=Tryz.underlying5
 a5:=Tryz.isAgg5
 z5:=Tryz.sizeOf5
 v5:=Tryz.zeroValue5
 t9:=Tryz.underlying9
 a9:=Tryz.isAgg9
 z9:=Tryz.sizeOf9
 v9:=Tryz.zeroValue9
 t20:=Tryz.underlying20
 a20:=Tryz.isAgg20
 z20:=Tryz.sizeOf20
 v20:=Tryz.zeroValue20
 t37:=Tryz.underlying113
 a37:=Tryz.isAgg113
 z37:=Tryz.sizeOf113
 v37:=Tryz.zeroValue113
 t46:=Tryz.underlying105
 a46:=Tryz.isAgg105
 z46:=Tryz.sizeOf105
 v46:=Tryz.zeroValue105
 t51:=Tryz.underlying176
 a51:=Tryz.isAgg176
 z51:=Tryz.sizeOf176
 v51:=Tryz.zeroValue176
 t53:=Tryz.underlying179
 a53:=Tryz.isAgg179
 z53:=Tryz.sizeOf179
 v53:=Tryz.zeroValue179
 t171:=Tryz.underlying332
 a171:=Tryz.isAgg332
 z171:=Tryz.sizeOf332
 v171:=Tryz.zeroValue332
 t173:=Tryz.underlying334
 a173:=Tryz.isAgg334
 z173:=Tryz.sizeOf334
 v173:=Tryz.zeroValue334
 t212:=Tryz.underlying348
 a212:=Tryz.isAgg348
 z212:=Tryz.sizeOf348
 v212:=Tryz.zeroValue348
 t213:=Tryz.underlying349
 a213:=Tryz.isAgg349
 z213:=Tryz.sizeOf349
 t232:=Tryz.underlying357
 a232:=Tryz.isAgg357
 z232:=Tryz.sizeOf357
 v232:=Tryz.zeroValue357
 t233:=Tryz.underlying358
 a233:=Tryz.isAgg358
 z233:=Tryz.sizeOf358
 v233:=Tryz.zeroValue358
 g17:=by kernel_rfl
 g18:=by kernel_rfl
 g19:=by kernel_rfl
 i0:=by kernel_rfl
 i2:=by kernel_rfl
 i3:=by kernel_rfl
 i4:=by kernel_rfl
 i5:=by kernel_rfl
 i9:=by kernel_rfl
 i20:=by kernel_rfl
 i37:=by kernel_rfl
 i46:=by kernel_rfl
 i51:=by kernel_rfl
 i53:=by kernel_rfl
 i171:=by kernel_rfl
 i173:=by kernel_rfl
 i212:=by kernel_rfl
 i232:=by kernel_rfl
 i233:=by kernel_rfl
 m17:=by kernel_rfl
 m18:=by kernel_rfl
 m19:=by kernel_rfl}
open Go.RowKit Go.Sort Go.Lib in
theorem Tryz.strconv_Itoa(n:Int)(h0:-9223372036854775808<=n)(h1:n<=9223372036854775807)(w:World)(htab:Lib.TabIs Tryz.prog w "internal/strconv.uint64pow10" .u64 Lib.pow10Tab) :
  Calls Tryz.prog 161 #[.int .i64 n] w fun e w'=>e=.returned (.string ⟨(Lib.itoa n).toArray⟩)/\∃k os,w'=grow (w.drewN k) os:=Any.strconv_Itoa Tryz.laysM171 n h0 h1 w htab
def Tryz.laysC172_ren:Go.Shelf.Ren:=⟨fun|172=>191|244=>242|245=>243|247=>276|279=>277|280=>278|281=>279|282=>280|287=>291|316=>297|171=>161|205=>298|321=>305|322=>306|243=>199|246=>249|283=>281|284=>282|285=>283|286=>284|129=>232|317=>299|318=>300|319=>301|320=>302|337=>308|338=>309|n=>n,fun|9=>9|3=>3|75=>254|76=>255|4=>4|5=>5|167=>326|37=>113|0=>0|85=>327|2=>2|168=>329|53=>179|175=>301|46=>105|210=>345|127=>338|145=>356|143=>354|21=>21|171=>332|173=>334|212=>348|51=>176|20=>20|213=>349|232=>357|233=>358|80=>314|n=>n,fun|15=>1|16=>2|17=>3|18=>4|19=>5|n=>n⟩
theorem Tryz.laysC172:Go.Proofs.LaysC.n172 Tryz.prog Tryz.laysC172_ren:={
 mixed:=by kernel_rfl
 f129:=Tryz.func232.trans (congrArg some (by kernel_rfl))
 f171:=Tryz.func161.trans (congrArg some (by kernel_rfl))
 f172:=Tryz.func191.trans (congrArg some (by kernel_rfl))
 f205:=Tryz.func298.trans (congrArg some (by kernel_rfl))
 f243:=Tryz.func199.trans (congrArg some (by kernel_rfl))
 f244:=Tryz.func242.trans (congrArg some (by kernel_rfl))
 f245:=Tryz.func243.trans (congrArg some (by kernel_rfl))
 f246:=Tryz.func249.trans (congrArg some (by kernel_rfl))
 f247:=Tryz.func276.trans (congrArg some (by kernel_rfl))
 f279:=Tryz.func277.trans (congrArg some (by kernel_rfl))
 f280:=Tryz.func278.trans (congrArg some (by kernel_rfl))
 f281:=Tryz.func279.trans (congrArg some (by kernel_rfl))
 f282:=Tryz.func280.trans (congrArg some (by kernel_rfl))
 f283:=Tryz.func281.trans (congrArg some (by kernel_rfl))
 f284:=Tryz.func282.trans (congrArg some (by kernel_rfl))
 f285:=Tryz.func283.trans (congrArg some (by kernel_rfl))
 f286:=Tryz.func284.trans (congrArg some (by kernel_rfl))
 f287:=Tryz.func291.trans (congrArg some (by kernel_rfl))
 f316:=Tryz.func297.trans (congrArg some (by kernel_rfl))
 f317:=Tryz.func299.trans (congrArg some (by kernel_rfl))
 f318:=Tryz.func300.trans (congrArg some (by kernel_rfl))
 f319:=Tryz.func301.trans (congrArg some (by kernel_rfl))
 f320:=Tryz.func302.trans (congrArg some (by kernel_rfl))
 f321:=Tryz.func305.trans (congrArg some (by kernel_rfl))
 f322:=Tryz.func306.trans (congrArg some (by kernel_rfl))
 f337:=Tryz.func308.trans (congrArg some (by kernel_rfl))
 f338:=Tryz.func309.trans (congrArg some (by kernel_rfl))
 t0:=Tryz.underlying0
 a0:=Tryz.isAgg0
 z0:=Tryz.sizeOf0
 v0:=Tryz.zeroValue0
 t2:=Tryz.underlying2
 a2:=Tryz.isAgg2
 z2:=Tryz.sizeOf2
 v2:=Tryz.zeroValue2
 t3:=Tryz.underlying3
 a3:=Tryz.isAgg3
 z3:=Tryz.sizeOf3
 v3:=Tryz.zeroValue3
 t4:=Tryz.underlying4
 a4:=Tryz.isAgg4
 z4:=Tryz.sizeOf4
 v4:=Tryz.zeroValue4
 t5:=Tryz.underlying5
 a5:=Tryz.isAgg5
 z5:=Tryz.sizeOf5
 v5:=Tryz.zeroValue5
 t9:=Tryz.underlying9
 a9:=Tryz.isAgg9
 z9:=Tryz.sizeOf9
 v9:=Tryz.zeroValue9
 t20:=Tryz.underlying20
 a20:=Tryz.isAgg20
 z20:=Tryz.sizeOf20
 v20:=Tryz.zeroValue20
 t21:=Tryz.underlying21
 a21:=Tryz.isAgg21
 z21:=Tryz.sizeOf21
 v21:=Tryz.zeroValue21
 t37:=Tryz.underlying113
 a37:=Tryz.isAgg113
 z37:=Tryz.sizeOf113
 v37:=Tryz.zeroValue113
 t46:=Tryz.underlying105
 a46:=Tryz.isAgg105
 z46:=Tryz.sizeOf105
 v46:=Tryz.zeroValue105
 t51:=Tryz.underlying176
 a51:=Tryz.isAgg176
 z51:=Tryz.sizeOf176
 v51:=Tryz.zeroValue176
 t53:=Tryz.underlying179
 a53:=Tryz.isAgg179
 z53:=Tryz.sizeOf179
 v53:=Tryz.zeroValue179
 t75:=Tryz.underlying254
 a75:=Tryz.isAgg254
 z75:=Tryz.sizeOf254
 v75:=Tryz.zeroValue254
 t76:=Tryz.underlying255
 a76:=Tryz.isAgg255
 z76:=Tryz.sizeOf255
 v76:=Tryz.zeroValue255
 t85:=Tryz.underlying327
 a85:=Tryz.isAgg327
 z85:=Tryz.sizeOf327
 v85:=Tryz.zeroValue327
 t127:=Tryz.underlying338
 a127:=Tryz.isAgg338
 z127:=Tryz.sizeOf338
 v127:=Tryz.zeroValue338
 t143:=Tryz.underlying354
 a143:=Tryz.isAgg354
 z143:=Tryz.sizeOf354
 v143:=Tryz.zeroValue354
 t145:=Tryz.underlying356
 a145:=Tryz.isAgg356
 z145:=Tryz.sizeOf356
 v145:=Tryz.zeroValue356
 t167:=Tryz.underlying326
 a167:=Tryz.isAgg326
 z167:=Tryz.sizeOf326
 v167:=Tryz.zeroValue326
 t168:=Tryz.underlying329
 a168:=Tryz.isAgg329
 z168:=Tryz.sizeOf329
 v168:=Tryz.zeroValue329
 t171:=Tryz.underlying332
 a171:=Tryz.isAgg332
 z171:=Tryz.sizeOf332
 v171:=Tryz.zeroValue332
 t173:=Tryz.underlying334
 a173:=Tryz.isAgg334
 z173:=Tryz.sizeOf334
 v173:=Tryz.zeroValue334
 t175:=Tryz.underlying301
 a175:=Tryz.isAgg301
 z175:=Tryz.sizeOf301
 v175:=Tryz.zeroValue301
 t210:=Tryz.underlying345
 a210:=Tryz.isAgg345
 z210:=Tryz.sizeOf345
 v210:=Tryz.zeroValue345
 t212:=Tryz.underlying348
 a212:=Tryz.isAgg348
 z212:=Tryz.sizeOf348
 v212:=Tryz.zeroValue348
 t213:=Tryz.underlying349
 a213:=Tryz.isAgg349
 z213:=Tryz.sizeOf349
 t232:=Tryz.underlying357
 a232:=Tryz.isAgg357
 z232:=Tryz.sizeOf357
 v232:=Tryz.zeroValue357
 t233:=Tryz.underlying358
 a233:=Tryz.isAgg358
 z233:=Tryz.sizeOf358
 v233:=Tryz.zeroValue358
 g15:=by kernel_rfl
 g16:=by kernel_rfl
 g17:=by kernel_rfl
 g18:=by kernel_rfl
 g19:=by kernel_rfl
 t80:=Tryz.underlying314
 a80:=Tryz.isAgg314
 z80:=Tryz.sizeOf314
 v80:=Tryz.zeroValue314
 i0:=by kernel_rfl
 i2:=by kernel_rfl
 i3:=by kernel_rfl
 i4:=by kernel_rfl
 i5:=by kernel_rfl
 i9:=by kernel_rfl
 i20:=by kernel_rfl
 i21:=by kernel_rfl
 i37:=by kernel_rfl
 i46:=by kernel_rfl
 i51:=by kernel_rfl
 i53:=by kernel_rfl
 i75:=by kernel_rfl
 i76:=by kernel_rfl
 i80:=by kernel_rfl
 i85:=by kernel_rfl
 i127:=by kernel_rfl
 i143:=by kernel_rfl
 i145:=by kernel_rfl
 i167:=by kernel_rfl
 i168:=by kernel_rfl
 i171:=by kernel_rfl
 i173:=by kernel_rfl
 i175:=by kernel_rfl
 i210:=by kernel_rfl
 i212:=by kernel_rfl
 i232:=by kernel_rfl
 i233:=by kernel_rfl
 m15:=by kernel_rfl
 m16:=by kernel_rfl
 m17:=by kernel_rfl
 m18:=by kernel_rfl
 m19:=by kernel_rfl
 c0:=by kernel_rfl
 c2:=by kernel_rfl
 c3:=by kernel_rfl
 c4:=by kernel_rfl
 c5:=by kernel_rfl
 c9:=by kernel_rfl
 c20:=by kernel_rfl
 c21:=by kernel_rfl
 c37:=by kernel_rfl
 c46:=by kernel_rfl
 c51:=by kernel_rfl
 c53:=by kernel_rfl
 c75:=by kernel_rfl
 c76:=by kernel_rfl
 c80:=by kernel_rfl
 c85:=by kernel_rfl
 c127:=by kernel_rfl
 c143:=by kernel_rfl
 c145:=by kernel_rfl
 c167:=by kernel_rfl
 c168:=by kernel_rfl
 c171:=by kernel_rfl
 c173:=by kernel_rfl
 c175:=by kernel_rfl
 c210:=by kernel_rfl
 c212:=by kernel_rfl
 c213:=by kernel_rfl
 c232:=by kernel_rfl
 c233:=by kernel_rfl}
open Go.RowKit in
theorem Tryz.strconv_Atoi_ok(s:ByteArray)(hmax:s.size<=9223372036854775806)(v:Int)(h:Lib.atoiAll s.data.toList=.ok v)(w:World) :
  Calls Tryz.prog 191 #[.string s] w fun e w'=>e=.returned (.tuple #[.int .i64 v,.nilIface])/\(w'=w∨∃t,w'=Lib.bytesWorld w 5 t):=Any.strconv_Atoi_ok Tryz.laysC172 s hmax v h w
def Tryz.laysPu14_ren:Go.Shelf.Ren:=⟨fun|14=>255|16=>291|17=>243|19=>305|20=>306|21=>277|22=>278|23=>279|24=>280|25=>297|27=>161|26=>298|28=>199|29=>249|30=>281|31=>282|32=>283|33=>284|35=>232|34=>299|36=>300|37=>301|38=>302|39=>308|40=>309|n=>n,fun|9=>9|3=>3|22=>179|24=>254|25=>301|4=>4|34=>326|5=>5|36=>105|37=>113|0=>0|39=>329|21=>21|44=>345|47=>338|50=>356|48=>354|2=>2|52=>332|55=>334|59=>348|60=>176|20=>20|61=>349|65=>357|66=>358|67=>314|n=>n,fun|0=>1|1=>2|2=>3|3=>4|4=>5|n=>n⟩
theorem Tryz.laysPu14:Go.Proofs.LaysPu.n14 Tryz.prog Tryz.laysPu14_ren:={
 mixed:=by kernel_rfl
 f14:=Tryz.func255.trans (congrArg some (by kernel_rfl))
 f16:=Tryz.func291.trans (congrArg some (by kernel_rfl))
 f17:=Tryz.func243.trans (congrArg some (by kernel_rfl))
 f19:=Tryz.func305.trans (congrArg some (by kernel_rfl))
 f20:=Tryz.func306.trans (congrArg some (by kernel_rfl))
 f21:=Tryz.func277.trans (congrArg some (by kernel_rfl))
 f22:=Tryz.func278.trans (congrArg some (by kernel_rfl))
 f23:=Tryz.func279.trans (congrArg some (by kernel_rfl))
 f24:=Tryz.func280.trans (congrArg some (by kernel_rfl))
 f25:=Tryz.func297.trans (congrArg some (by kernel_rfl))
 f26:=Tryz.func298.trans (congrArg some (by kernel_rfl))
 f27:=Tryz.func161.trans (congrArg some (by kernel_rfl))
 f28:=Tryz.func199.trans (congrArg some (by kernel_rfl))
 f29:=Tryz.func249.trans (congrArg some (by kernel_rfl))
 f30:=Tryz.func281.trans (congrArg some (by kernel_rfl))
 f31:=Tryz.func282.trans (congrArg some (by kernel_rfl))
 f32:=Tryz.func283.trans (congrArg some (by kernel_rfl))
 f33:=Tryz.func284.trans (congrArg some (by kernel_rfl))
 f34:=Tryz.func299.trans (congrArg some (by kernel_rfl))
 f35:=Tryz.func232.trans (congrArg some (by kernel_rfl))
 f36:=Tryz.func300.trans (congrArg some (by kernel_rfl))
 f37:=Tryz.func301.trans (congrArg some (by kernel_rfl))
 f38:=Tryz.func302.trans (congrArg some (by kernel_rfl))
 f39:=Tryz.func308.trans (congrArg some (by kernel_rfl))
 f40:=Tryz.func309.trans (congrArg some (by kernel_rfl))
 t0:=Tryz.underlying0
 a0:=Tryz.isAgg0
 z0:=Tryz.sizeOf0
 v0:=Tryz.zeroValue0
 i0:=by kernel_rfl
 t2:=Tryz.underlying2
 a2:=Tryz.isAgg2
 z2:=Tryz.sizeOf2
 v2:=Tryz.zeroValue2
 i2:=by kernel_rfl
 t3:=Tryz.underlying3
 a3:=Tryz.isAgg3
 z3:=Tryz.sizeOf3
 v3:=Tryz.zeroValue3
 i3:=by kernel_rfl
 t4:=Tryz.underlying4
 a4:=Tryz.isAgg4
 z4:=Tryz.sizeOf4
 v4:=Tryz.zeroValue4
 i4:=by kernel_rfl
 t5:=Tryz.underlying5
 a5:=Tryz.isAgg5
 z5:=Tryz.sizeOf5
 v5:=Tryz.zeroValue5
 i5:=by kernel_rfl
 t9:=Tryz.underlying9
 a9:=Tryz.isAgg9
 z9:=Tryz.sizeOf9
 v9:=Tryz.zeroValue9
 i9:=by kernel_rfl
 t20:=Tryz.underlying20
 a20:=Tryz.isAgg20
 z20:=Tryz.sizeOf20
 v20:=Tryz.zeroValue20
 i20:=by kernel_rfl
 t21:=Tryz.underlying21
 a21:=Tryz.isAgg21
 z21:=Tryz.sizeOf21
 v21:=Tryz.zeroValue21
 i21:=by kernel_rfl
 t22:=Tryz.underlying179
 a22:=Tryz.isAgg179
 z22:=Tryz.sizeOf179
 v22:=Tryz.zeroValue179
 i22:=by kernel_rfl
 t24:=Tryz.underlying254
 a24:=Tryz.isAgg254
 z24:=Tryz.sizeOf254
 v24:=Tryz.zeroValue254
 i24:=by kernel_rfl
 t25:=Tryz.underlying301
 a25:=Tryz.isAgg301
 z25:=Tryz.sizeOf301
 v25:=Tryz.zeroValue301
 i25:=by kernel_rfl
 t34:=Tryz.underlying326
 a34:=Tryz.isAgg326
 z34:=Tryz.sizeOf326
 v34:=Tryz.zeroValue326
 i34:=by kernel_rfl
 c34:=by kernel_rfl
 t36:=Tryz.underlying105
 a36:=Tryz.isAgg105
 z36:=Tryz.sizeOf105
 v36:=Tryz.zeroValue105
 i36:=by kernel_rfl
 t37:=Tryz.underlying113
 a37:=Tryz.isAgg113
 z37:=Tryz.sizeOf113
 v37:=Tryz.zeroValue113
 i37:=by kernel_rfl
 t39:=Tryz.underlying329
 a39:=Tryz.isAgg329
 z39:=Tryz.sizeOf329
 v39:=Tryz.zeroValue329
 i39:=by kernel_rfl
 t44:=Tryz.underlying345
 a44:=Tryz.isAgg345
 z44:=Tryz.sizeOf345
 v44:=Tryz.zeroValue345
 i44:=by kernel_rfl
 t47:=Tryz.underlying338
 a47:=Tryz.isAgg338
 z47:=Tryz.sizeOf338
 v47:=Tryz.zeroValue338
 i47:=by kernel_rfl
 t48:=Tryz.underlying354
 a48:=Tryz.isAgg354
 z48:=Tryz.sizeOf354
 v48:=Tryz.zeroValue354
 i48:=by kernel_rfl
 t50:=Tryz.underlying356
 a50:=Tryz.isAgg356
 z50:=Tryz.sizeOf356
 v50:=Tryz.zeroValue356
 i50:=by kernel_rfl
 t52:=Tryz.underlying332
 a52:=Tryz.isAgg332
 z52:=Tryz.sizeOf332
 v52:=Tryz.zeroValue332
 i52:=by kernel_rfl
 t55:=Tryz.underlying334
 a55:=Tryz.isAgg334
 z55:=Tryz.sizeOf334
 v55:=Tryz.zeroValue334
 i55:=by kernel_rfl
 t59:=Tryz.underlying348
 a59:=Tryz.isAgg348
 z59:=Tryz.sizeOf348
 v59:=Tryz.zeroValue348
 i59:=by kernel_rfl
 t60:=Tryz.underlying176
 a60:=Tryz.isAgg176
 z60:=Tryz.sizeOf176
 v60:=Tryz.zeroValue176
 i60:=by kernel_rfl
 t61:=Tryz.underlying349
 a61:=Tryz.isAgg349
 z61:=Tryz.sizeOf349
 t65:=Tryz.underlying357
 a65:=Tryz.isAgg357
 z65:=Tryz.sizeOf357
 v65:=Tryz.zeroValue357
 i65:=by kernel_rfl
 t66:=Tryz.underlying358
 a66:=Tryz.isAgg358
 z66:=Tryz.sizeOf358
 v66:=Tryz.zeroValue358
 i66:=by kernel_rfl
 t67:=Tryz.underlying314
 a67:=Tryz.isAgg314
 z67:=Tryz.sizeOf314
 v67:=Tryz.zeroValue314
 i67:=by kernel_rfl
 g0:=by kernel_rfl
 m0:=by kernel_rfl
 g1:=by kernel_rfl
 m1:=by kernel_rfl
 g2:=by kernel_rfl
 m2:=by kernel_rfl
 g3:=by kernel_rfl
 m3:=by kernel_rfl
 g4:=by kernel_rfl
 m4:=by kernel_rfl}
open Go.RowKit in
theorem Tryz.strconv_ParseUint_10_at64_ok(s:ByteArray)(hmax:s.size<=9223372036854775806)(u:Nat)(h:Lib.parseUintB 64 s.data.toList=.ok u)(w:World) :
  Calls Tryz.prog 255 #[.string s,.int .i64 10,.int .i64 64] w fun e w'=>e=.returned (.tuple #[.int .u64 u,.nilIface])/\(w'=w∨w'=Lib.bytesWorld w 5 s):=Any.strconv_ParseUint_10_at64_ok Tryz.laysPu14 s hmax u h w
def Tryz.laysM145_ren:Go.Shelf.Ren:=⟨fun|145=>163|220=>200|219=>250|217=>285|225=>286|224=>287|267=>288|266=>303|314=>304|n=>n,fun|9=>9|4=>4|59=>228|3=>3|5=>5|46=>105|146=>177|51=>176|n=>n,fun|1=>0|n=>n⟩
theorem Tryz.laysM145:Go.Proofs.LaysM.n145 Tryz.prog Tryz.laysM145_ren:={
 mixed:=by kernel_rfl
 f145:=Tryz.func163.trans (congrArg some (by kernel_rfl))
 f217:=Tryz.func285.trans (congrArg some (by kernel_rfl))
 f219:=Tryz.func250.trans (congrArg some (by kernel_rfl))
 f220:=Tryz.func200.trans (congrArg some (by kernel_rfl))
 f224:=Tryz.func287.trans (congrArg some (by kernel_rfl))
 f225:=Tryz.func286.trans (congrArg some (by kernel_rfl))
 f266:=Tryz.func303.trans (congrArg some (by kernel_rfl))
 f267:=Tryz.func288.trans (congrArg some (by kernel_rfl))
 f314:=Tryz.func304.trans (congrArg some (by kernel_rfl))
 t3:=Tryz.underlying3
 a3:=Tryz.isAgg3
 z3:=Tryz.sizeOf3
 v3:=Tryz.zeroValue3
 t4:=Tryz.underlying4
 a4:=Tryz.isAgg4
 z4:=Tryz.sizeOf4
 v4:=Tryz.zeroValue4
 t5:=Tryz.underlying5
 a5:=Tryz.isAgg5
 z5:=Tryz.sizeOf5
 v5:=Tryz.zeroValue5
 t9:=Tryz.underlying9
 a9:=Tryz.isAgg9
 z9:=Tryz.sizeOf9
 v9:=Tryz.zeroValue9
 t46:=Tryz.underlying105
 a46:=Tryz.isAgg105
 z46:=Tryz.sizeOf105
 v46:=Tryz.zeroValue105
 t51:=Tryz.underlying176
 a51:=Tryz.isAgg176
 z51:=Tryz.sizeOf176
 v51:=Tryz.zeroValue176
 t59:=Tryz.underlying228
 a59:=Tryz.isAgg228
 z59:=Tryz.sizeOf228
 v59:=Tryz.zeroValue228
 t146:=Tryz.underlying177
 a146:=Tryz.isAgg177
 z146:=Tryz.sizeOf177
 v146:=Tryz.zeroValue177
 g1:=by kernel_rfl
 i3:=by kernel_rfl
 i4:=by kernel_rfl
 i5:=by kernel_rfl
 i9:=by kernel_rfl
 i46:=by kernel_rfl
 i51:=by kernel_rfl
 i59:=by kernel_rfl
 i146:=by kernel_rfl
 m1:=by kernel_rfl
 s1_3:=fun w h=>Go.Proofs.cell_of_shapedOpen_int (zero:=#[.int .i64 0]) (t:=3) h (of_decide_eq_true (by kernel_rfl)) (by kernel_rfl) rfl (by kernel_rfl) (by kernel_rfl) Tryz.underlying3}
open Go.RowKit Go.Lib in
theorem Tryz.strings_Cut_shaped(s sep:ByteArray)(w:World)(h:w.ShapedOpen Tryz.prog)(hs:s.size<4294967281) :
  Calls Tryz.prog 163 #[.string s,.string sep] w fun e w'=>e=.returned (.tuple #[.string ⟨(Lib.cut s.data.toList sep.data.toList).1.toArray⟩,.string ⟨(Lib.cut s.data.toList sep.data.toList).2.1.toArray⟩,.bool (Lib.cut s.data.toList sep.data.toList).2.2])/\∃n,w'=w.drewN n:=Any.strings_Cut_shaped Tryz.laysM145 s sep w h hs
def Tryz.lays99_ren:Go.Shelf.Ren:=⟨fun|99=>252|206=>289|n=>n,fun|9=>9|4=>4|3=>3|n=>n,fun|n=>n⟩
theorem Tryz.lays99:Go.Proofs.Lays.n99 Tryz.prog Tryz.lays99_ren:={
 mixed:=by kernel_rfl
 f99:=Tryz.func252.trans (congrArg some (by kernel_rfl))
 f206:=Tryz.func289.trans (congrArg some (by kernel_rfl))
 t3:=Tryz.underlying3
 a3:=Tryz.isAgg3
 z3:=Tryz.sizeOf3
 v3:=Tryz.zeroValue3
 t4:=Tryz.underlying4
 a4:=Tryz.isAgg4
 z4:=Tryz.sizeOf4
 v4:=Tryz.zeroValue4
 t9:=Tryz.underlying9
 a9:=Tryz.isAgg9
 z9:=Tryz.sizeOf9
 v9:=Tryz.zeroValue9}
open Go.RowKit Go.Lib in
theorem Tryz.strings_HasPrefix(s p:ByteArray)(w:World) :
  Calls Tryz.prog 252 #[.string s,.string p] w fun e w'=>e=.returned (.bool (Lib.hasPrefix s.data.toList p.data.toList))/\w'=w:=Any.strings_HasPrefix Tryz.lays99 s p w
def Tryz.lays101_ren:Go.Shelf.Ren:=⟨fun|101=>203|208=>253|206=>289|n=>n,fun|9=>9|4=>4|3=>3|n=>n,fun|n=>n⟩
theorem Tryz.lays101:Go.Proofs.Lays.n101 Tryz.prog Tryz.lays101_ren:={
 mixed:=by kernel_rfl
 f101:=Tryz.func203.trans (congrArg some (by kernel_rfl))
 f206:=Tryz.func289.trans (congrArg some (by kernel_rfl))
 f208:=Tryz.func253.trans (congrArg some (by kernel_rfl))
 t3:=Tryz.underlying3
 a3:=Tryz.isAgg3
 z3:=Tryz.sizeOf3
 v3:=Tryz.zeroValue3
 t4:=Tryz.underlying4
 a4:=Tryz.isAgg4
 z4:=Tryz.sizeOf4
 v4:=Tryz.zeroValue4
 t9:=Tryz.underlying9
 a9:=Tryz.isAgg9
 z9:=Tryz.sizeOf9
 v9:=Tryz.zeroValue9}
open Go.RowKit Go.Lib in
theorem Tryz.strings_TrimPrefix(s p:ByteArray)(w:World) :
  Calls Tryz.prog 203 #[.string s,.string p] w fun e w'=>e=.returned (.string ⟨(Lib.trimPrefix s.data.toList p.data.toList).toArray⟩)/\w'=w:=Any.strings_TrimPrefix Tryz.lays101 s p w
end Go.Proofs
namespace Go.Proofs.YtnddllipjippnaaGreatDoor
open Go.RowKit Kl
def QW(q:Rat):Value:=if (D q.num.natAbs).length<=9/\(D q.den).length<=9 then .tuple #[.int .i64 q.num,.int .i64 q.den,.bool true] else .tuple #[.int .i64 0,.int .i64 0,.bool false]
structure Seg(s:ByteArray)(b:Nat)(m:Bs):Prop where
 le:b+m.length<=s.size
 all:Ch m
 at_:∀(j:Nat) (h:j<s.size),b<=j→j<b+m.length→s[j]=m.getD (j-b) 0
theorem Seg.digit{s:ByteArray}{b:Nat}{m:Bs}(h:Seg s b m){j:Nat}(hj:j<s.size)(h1:b<=j)(h2:j<b+m.length) :
  ∃c:UInt8,s[j]=c/\FS c/\val (m.take (j+1-b))=val (m.take (j-b))*10+(c.toNat-48):=by
 have e:=h.at_ j hj h1 h2;have hl:j-b<m.length:=(by omega);refine⟨m[j-b],?_,h.all _ (Ao8 hl),?_⟩
 ·rw [e];simp [List.getD,hl]
 ·rw [show j+1-b=j-b+1 by omega,AoA hl,mC];rfl
theorem AlE{m:Bs}(h:Ch m){k:Nat} : val (m.take k)<10^k:=by
 have h1:=Mo (pH h k);have h2:10^(m.take k).length<=10^k:=Nat.pow_le_pow_right (by omega) (by rw [List.length_take];omega);omega
theorem Seg.digit'{s:ByteArray}{b:Nat}{m:Bs}(h:Seg s b m){j:Nat}(h1:b<=j)(h2:j<b+m.length)(h9:j<b+9) :
  ∃(c:UInt8) (v:Nat) (hj:j<s.size),s[j]=c/\(48:Int)<=(c.toNat:Int)/\(c.toNat:Int)<=57/\((c.toNat:Int) != 47)=true/\v=val (m.take (j-b))/\(v:Int)<=99999999/\
   ((val (m.take (j+1-b)):Nat):Int)=10*(v:Int)+((c.toNat:Int)-48):=by
 have hj:j<s.size:=(by have:=h.le;omega);obtain⟨c,e1,d,e2⟩:=h.digit hj h1 h2;have hv:=AlE h.all (k:=j-b);have h8:10^(j-b)<=10^8:=Nat.pow_le_pow_right (by omega) (by omega);have h10:(10:Nat)^8=100000000:=(by decide);have:=d.1;have:=d.2;refine⟨c,_,hj,e1,by omega,by omega,?_,rfl,by omega,by rw [e2];omega⟩;rw [bne_iff_ne];omega
def Fj(sg:Bool)(m m2:Bs):Value:=if m.length<=9/\m2.length<=9 then .tuple #[.int .i64 (if sg then -(val m:Int)else (val m:Int)),.int .i64 (val m2:Nat),.bool true] else .tuple #[.int .i64 0,.int .i64 0,.bool false]
theorem QY{sg:Bool}{m m2:Bs}(h:9<m.length∨9<m2.length):Fj sg m m2=.tuple #[.int .i64 0,.int .i64 0,.bool false]:=if_neg (by omega)
theorem Yk{sg:Bool}{m m2:Bs}(h:m.length<=9)(h2:m2.length<=9):Fj sg m m2=.tuple #[.int .i64 (if sg then -(val m:Int)else (val m:Int)),.int .i64 (val m2:Nat),.bool true]:=if_pos ⟨h,h2⟩
theorem IP{a b:Value}(h:b=a):Ending.returned a=.returned b:=by rw [h]
/-! ### The walks -/
theorem Ajx(s:ByteArray)(m:Bs)(hm:Seg s 0 m)(hs:s.size=0+m.length)(hmax:s.size<=100000)(h0:0<m.length)(w:World) :
  Calls Tryz.prog 186 #[.string s] w (fun e w'=>e=.returned (Fj false m [49])/\w=w'):=by
 have hp:(0:Int)<(s.size:Int):=(by omega);obtain⟨c0,-,hs0,e0,d0,d1,-⟩:=hm.digit' (j:=0) (by omega) (by omega) (by omega);have hc:((c0.toNat:Int) == 45)=false:=(by rw [beq_eq_false_iff_ne];omega);clear d0 d1;have HS:=Ao4 hs;clear hs;go_enter Tryz.func186,Tryz.ntmps186;go_wp2;clear hc e0 hp
 go_loop [2,3,5] (fun n z i=>∃j:Nat,0<=j/\j<=0+m.length/\j<=0+9/\z=.int .i64 0/\i=.int .i64 (j:Nat)/\n=.int .i64 (val (m.take (j-0)):Nat)) (fun _ _ i=>s.size-(intOf i).toNat)
 case atStart=>exact⟨0,by omega,by omega,by omega,rfl,rfl,by simp [Mp]⟩
 case round=>
  obtain⟨j,hj0,Nr,T9,rfl,rfl,rfl⟩:=hrel;have eR:j<=s.size:=(by have:=HS.out;omega);by_cases hlt:j<0+m.length
  ·by_cases h9:j=0+9
   ·have Gy:j<s.size:=(by have:=HS.out;omega);obtain⟨c,e,d,-⟩:=hm.digit Gy hj0 hlt;have d1:=d.1;have Gv:((c.toNat:Int) != 47)=true:=(by rw [bne_iff_ne];omega);have Jo:(((j:Int)) == 9)=true:=(by rw [beq_iff_eq];omega);have LF:(j:Int)<(s.size:Int):=(by omega);have Jt:(0:Int)<=(j:Int):=(by omega);have HV:Hid (Fj false m [49]=.tuple #[.int .i64 0,.int .i64 0,.bool false]):=Ao4 (QY (.inl (by omega)));clear h9 d d1;go_wp2;go_ret3;exact⟨IP HV.out,rfl⟩
   ·obtain⟨c,v,Gy,e,d1,d2,Gv,hv,Kr,hn⟩:=hm.digit' hj0 hlt (by omega);have Jo:(((j:Int)) == 9)=false:=(by rw [beq_eq_false_iff_ne];omega);have LF:(j:Int)<(s.size:Int):=(by omega);have Jt:(0:Int)<=(j:Int):=(by omega);rw [←hv];have HN:=Ao4 hn;clear hv hn;go_wp2
    go_round
    case rel=>exact⟨j+1,by omega,by omega,by omega,rfl,by go_num,by rw [HN.out]⟩
    case measure=>simp [intOf];omega
  ·have Eo:j=0+m.length:=(by omega);have ht:m.take (j-0)=m:=by rw [Eo];simp
   have Kr:((val m:Nat):Int)<=999999999:=by have h1:=Mo hm.all;have h2:10^m.length<=10^9:=Nat.pow_le_pow_right (by omega) (by omega);have h3:(10:Nat)^9=1000000000:=(by decide);omega
   have De:m.length<=9:=(by omega);rw [ht];have Jt:(0:Int)<=(j:Int):=(by omega);have hle:(s.size:Int)<=(j:Int):=(by have:=HS.out;omega);have AB:((j:Int) == (s.size:Int))=true:=(by rw [beq_iff_eq];have:=HS.out;omega);have HV:Hid (Fj false m [49]=.tuple #[.int .i64 ((val m:Int)),.int .i64 1,.bool true]):=Ao4 (Yk De (by simp));clear ht Eo hlt;go_wp2;go_ret3;exact⟨IP HV.out,rfl⟩
theorem Ajv(s:ByteArray)(m m2:Bs)(hm:Seg s 0 m)(Nt:Seg s (0+m.length+1) m2)(hs:s.size=0+m.length+1+m2.length)(h2:0<m2.length)(hq:∃h:0+m.length<s.size,s[0+m.length]=47)(hmax:s.size<=100000)(h0:0<m.length)(w:World) :
  Calls Tryz.prog 186 #[.string s] w (fun e w'=>e=.returned (Fj false m m2)/\w=w'):=by
 have hp:(0:Int)<(s.size:Int):=(by omega);obtain⟨c0,-,hs0,e0,d0,d1,-⟩:=hm.digit' (j:=0) (by omega) (by omega) (by omega);have hc:((c0.toNat:Int) == 45)=false:=(by rw [beq_eq_false_iff_ne];omega);clear d0 d1;have HS:=Ao4 hs;clear hs;go_enter Tryz.func186,Tryz.ntmps186;go_wp2;clear hc e0 hp
 go_loop [2,3,5] (fun n z i=>∃j:Nat,0<=j/\j<=0+m.length/\j<=0+9/\z=.int .i64 0/\i=.int .i64 (j:Nat)/\n=.int .i64 (val (m.take (j-0)):Nat)) (fun _ _ i=>s.size-(intOf i).toNat)
 case atStart=>exact⟨0,by omega,by omega,by omega,rfl,rfl,by simp [Mp]⟩
 case round=>
  obtain⟨j,hj0,Nr,T9,rfl,rfl,rfl⟩:=hrel;have eR:j<=s.size:=(by have:=HS.out;omega);by_cases hlt:j<0+m.length
  ·by_cases h9:j=0+9
   ·have Gy:j<s.size:=(by have:=HS.out;omega);obtain⟨c,e,d,-⟩:=hm.digit Gy hj0 hlt;have d1:=d.1;have Gv:((c.toNat:Int) != 47)=true:=(by rw [bne_iff_ne];omega);have Jo:(((j:Int)) == 9)=true:=(by rw [beq_iff_eq];omega);have LF:(j:Int)<(s.size:Int):=(by omega);have Jt:(0:Int)<=(j:Int):=(by omega);have HV:Hid (Fj false m m2=.tuple #[.int .i64 0,.int .i64 0,.bool false]):=Ao4 (QY (.inl (by omega)));clear h9 d d1;go_wp2;go_ret3;exact⟨IP HV.out,rfl⟩
   ·obtain⟨c,v,Gy,e,d1,d2,Gv,hv,Kr,hn⟩:=hm.digit' hj0 hlt (by omega);have Jo:(((j:Int)) == 9)=false:=(by rw [beq_eq_false_iff_ne];omega);have LF:(j:Int)<(s.size:Int):=(by omega);have Jt:(0:Int)<=(j:Int):=(by omega);rw [←hv];have HN:=Ao4 hn;clear hv hn;go_wp2
    go_round
    case rel=>exact⟨j+1,by omega,by omega,by omega,rfl,by go_num,by rw [HN.out]⟩
    case measure=>simp [intOf];omega
  ·have Eo:j=0+m.length:=(by omega);have ht:m.take (j-0)=m:=by rw [Eo];simp
   have Kr:((val m:Nat):Int)<=999999999:=by have h1:=Mo hm.all;have h2:10^m.length<=10^9:=Nat.pow_le_pow_right (by omega) (by omega);have h3:(10:Nat)^9=1000000000:=(by decide);omega
   have De:m.length<=9:=(by omega);rw [ht];have Jt:(0:Int)<=(j:Int):=(by omega);have Gy:j<s.size:=(by have:=HS.out;omega);have LF:(j:Int)<(s.size:Int):=(by omega);obtain⟨c,hc⟩:=Ao3 (47:UInt8);have e:s[j]=c:=(by rw [hc];obtain⟨_,e⟩:=hq;simp only [Eo];exact e);have Gv:((c.toNat:Int) != 47)=false:=(by rw [hc];rfl);have AB:((j:Int) == (s.size:Int))=false:=(by rw [beq_eq_false_iff_ne];omega);have hsz:s.size=j+1+m2.length:=(by have:=HS.out;omega);have JL:=Ao4 hsz;rw [←Eo]at Nt;have hjb:j<=0+9:=T9;clear ht Eo hlt hc hsz;go_wp2;clear Gv e AB
   go_loop [2,3,5] (fun z n i=>∃k:Nat,j+1<=k/\k<=j+1+m2.length/\k<=j+1+9/\z=.int .i64 ((val m:Int))/\i=.int .i64 (k:Nat)/\n=.int .i64 (val (m2.take (k-(j+1))):Nat)) (fun _ _ i=>s.size-(intOf i).toNat)
   case atStart=>exact⟨j+1,by omega,by omega,by omega,rfl,by go_num,by simp [Mp]⟩
   case round=>
    obtain⟨k,hk0,DX,OI,rfl,rfl,rfl⟩:=hrel;have Af7:k<=s.size:=(by have:=JL.out;omega);by_cases hlt2:k<j+1+m2.length
    ·by_cases h9:k=j+1+9
     ·have Jv:k<s.size:=(by have:=JL.out;omega);have Jo:((k:Int)-((j:Int)+1) == 9)=true:=(by rw [beq_iff_eq];omega);have eY:(k:Int)<(s.size:Int):=(by omega);have eS:(0:Int)<=(k:Int):=(by omega);have HV:Hid (Fj false m m2=.tuple #[.int .i64 0,.int .i64 0,.bool false]):=Ao4 (QY (.inr (by omega)));clear h9;go_wp2;go_ret3;exact⟨IP HV.out,rfl⟩
     ·obtain⟨c,v,Jv,e,d1,d2,Gv,hv,Agw,hn⟩:=Nt.digit' hk0 hlt2 (by omega);have Jo:((k:Int)-((j:Int)+1) == 9)=false:=(by rw [beq_eq_false_iff_ne];omega);have eY:(k:Int)<(s.size:Int):=(by omega);have eS:(0:Int)<=(k:Int):=(by omega);rw [←hv];have HN:=Ao4 hn;clear hv hn Gv;go_wp2
      go_round
      case rel=>exact⟨k+1,by omega,by omega,by omega,rfl,by go_num,by rw [HN.out]⟩
      case measure=>simp [intOf];omega
    ·have TB:k=j+1+m2.length:=(by omega);have N2:m2.take (k-(j+1))=m2:=(by rw [TB];simp);have HV:Hid (Fj false m m2=.tuple #[.int .i64 ((val m:Int)),.int .i64 (val m2:Nat),.bool true]):=Ao4 (Yk De (by omega));have hle:(s.size:Int)<=(k:Int):=(by have:=JL.out;omega);rw [N2];clear N2 TB hlt2;go_wp2;go_ret3;exact⟨IP HV.out,rfl⟩
theorem Ajy(s:ByteArray)(m:Bs)(hm:Seg s 1 m)(hs:s.size=1+m.length)(hmax:s.size<=100000)(h0:0<m.length)(hc:∃(h:0<s.size),s[0]=45)(w:World) :
  Calls Tryz.prog 186 #[.string s] w (fun e w'=>e=.returned (Fj true m [49])/\w=w'):=by
 have hp:(0:Int)<(s.size:Int):=(by omega);obtain⟨hs0,e0⟩:=hc;obtain⟨c0,hc0⟩:=Ao3 (45:UInt8);rw [←hc0]at e0;have hc:((c0.toNat:Int) == 45)=true:=(by rw [hc0];rfl);clear hc0;have HS:=Ao4 hs;clear hs;go_enter Tryz.func186,Tryz.ntmps186;go_wp2;clear hc e0 hp
 go_loop [2,3,5] (fun n z i=>∃j:Nat,1<=j/\j<=1+m.length/\j<=1+9/\z=.int .i64 0/\i=.int .i64 (j:Nat)/\n=.int .i64 (val (m.take (j-1)):Nat)) (fun _ _ i=>s.size-(intOf i).toNat)
 case atStart=>exact⟨1,by omega,by omega,by omega,rfl,rfl,by simp [Mp]⟩
 case round=>
  obtain⟨j,hj0,Nr,T9,rfl,rfl,rfl⟩:=hrel;have eR:j<=s.size:=(by have:=HS.out;omega);by_cases hlt:j<1+m.length
  ·by_cases h9:j=1+9
   ·have Gy:j<s.size:=(by have:=HS.out;omega);obtain⟨c,e,d,-⟩:=hm.digit Gy hj0 hlt;have d1:=d.1;have Gv:((c.toNat:Int) != 47)=true:=(by rw [bne_iff_ne];omega);have Jo:(((j:Int)-1) == 9)=true:=(by rw [beq_iff_eq];omega);have LF:(j:Int)<(s.size:Int):=(by omega);have Jt:(0:Int)<=(j:Int):=(by omega);have HV:Hid (Fj true m [49]=.tuple #[.int .i64 0,.int .i64 0,.bool false]):=Ao4 (QY (.inl (by omega)));clear h9 d d1;go_wp2;go_ret3;exact⟨IP HV.out,rfl⟩
   ·obtain⟨c,v,Gy,e,d1,d2,Gv,hv,Kr,hn⟩:=hm.digit' hj0 hlt (by omega);have Jo:(((j:Int)-1) == 9)=false:=(by rw [beq_eq_false_iff_ne];omega);have LF:(j:Int)<(s.size:Int):=(by omega);have Jt:(0:Int)<=(j:Int):=(by omega);rw [←hv];have HN:=Ao4 hn;clear hv hn;go_wp2
    go_round
    case rel=>exact⟨j+1,by omega,by omega,by omega,rfl,by go_num,by rw [HN.out]⟩
    case measure=>simp [intOf];omega
  ·have Eo:j=1+m.length:=(by omega);have ht:m.take (j-1)=m:=by rw [Eo];simp
   have Kr:((val m:Nat):Int)<=999999999:=by have h1:=Mo hm.all;have h2:10^m.length<=10^9:=Nat.pow_le_pow_right (by omega) (by omega);have h3:(10:Nat)^9=1000000000:=(by decide);omega
   have De:m.length<=9:=(by omega);rw [ht];have Jt:(0:Int)<=(j:Int):=(by omega);have hle:(s.size:Int)<=(j:Int):=(by have:=HS.out;omega);have AB:((j:Int) == (s.size:Int))=true:=(by rw [beq_iff_eq];have:=HS.out;omega);have HV:Hid (Fj true m [49]=.tuple #[.int .i64 (-(val m:Int)),.int .i64 1,.bool true]):=Ao4 (Yk De (by simp));clear ht Eo hlt;go_wp2;go_ret3;exact⟨IP HV.out,rfl⟩
theorem Ajw(s:ByteArray)(m m2:Bs)(hm:Seg s 1 m)(Nt:Seg s (1+m.length+1) m2)(hs:s.size=1+m.length+1+m2.length)(h2:0<m2.length)(hq:∃h:1+m.length<s.size,s[1+m.length]=47)(hmax:s.size<=100000)(h0:0<m.length)(hc:∃(h:0<s.size),s[0]=45)(w:World) :
  Calls Tryz.prog 186 #[.string s] w (fun e w'=>e=.returned (Fj true m m2)/\w=w'):=by
 have hp:(0:Int)<(s.size:Int):=(by omega);obtain⟨hs0,e0⟩:=hc;obtain⟨c0,hc0⟩:=Ao3 (45:UInt8);rw [←hc0]at e0;have hc:((c0.toNat:Int) == 45)=true:=(by rw [hc0];rfl);clear hc0;have HS:=Ao4 hs;clear hs;go_enter Tryz.func186,Tryz.ntmps186;go_wp2;clear hc e0 hp
 go_loop [2,3,5] (fun n z i=>∃j:Nat,1<=j/\j<=1+m.length/\j<=1+9/\z=.int .i64 0/\i=.int .i64 (j:Nat)/\n=.int .i64 (val (m.take (j-1)):Nat)) (fun _ _ i=>s.size-(intOf i).toNat)
 case atStart=>exact⟨1,by omega,by omega,by omega,rfl,rfl,by simp [Mp]⟩
 case round=>
  obtain⟨j,hj0,Nr,T9,rfl,rfl,rfl⟩:=hrel;have eR:j<=s.size:=(by have:=HS.out;omega);by_cases hlt:j<1+m.length
  ·by_cases h9:j=1+9
   ·have Gy:j<s.size:=(by have:=HS.out;omega);obtain⟨c,e,d,-⟩:=hm.digit Gy hj0 hlt;have d1:=d.1;have Gv:((c.toNat:Int) != 47)=true:=(by rw [bne_iff_ne];omega);have Jo:(((j:Int)-1) == 9)=true:=(by rw [beq_iff_eq];omega);have LF:(j:Int)<(s.size:Int):=(by omega);have Jt:(0:Int)<=(j:Int):=(by omega);have HV:Hid (Fj true m m2=.tuple #[.int .i64 0,.int .i64 0,.bool false]):=Ao4 (QY (.inl (by omega)));clear h9 d d1;go_wp2;go_ret3;exact⟨IP HV.out,rfl⟩
   ·obtain⟨c,v,Gy,e,d1,d2,Gv,hv,Kr,hn⟩:=hm.digit' hj0 hlt (by omega);have Jo:(((j:Int)-1) == 9)=false:=(by rw [beq_eq_false_iff_ne];omega);have LF:(j:Int)<(s.size:Int):=(by omega);have Jt:(0:Int)<=(j:Int):=(by omega);rw [←hv];have HN:=Ao4 hn;clear hv hn;go_wp2
    go_round
    case rel=>exact⟨j+1,by omega,by omega,by omega,rfl,by go_num,by rw [HN.out]⟩
    case measure=>simp [intOf];omega
  ·have Eo:j=1+m.length:=(by omega);have ht:m.take (j-1)=m:=by rw [Eo];simp
   have Kr:((val m:Nat):Int)<=999999999:=by have h1:=Mo hm.all;have h2:10^m.length<=10^9:=Nat.pow_le_pow_right (by omega) (by omega);have h3:(10:Nat)^9=1000000000:=(by decide);omega
   have De:m.length<=9:=(by omega);rw [ht];have Jt:(0:Int)<=(j:Int):=(by omega);have Gy:j<s.size:=(by have:=HS.out;omega);have LF:(j:Int)<(s.size:Int):=(by omega);obtain⟨c,hc⟩:=Ao3 (47:UInt8);have e:s[j]=c:=(by rw [hc];obtain⟨_,e⟩:=hq;simp only [Eo];exact e);have Gv:((c.toNat:Int) != 47)=false:=(by rw [hc];rfl);have AB:((j:Int) == (s.size:Int))=false:=(by rw [beq_eq_false_iff_ne];omega);have hsz:s.size=j+1+m2.length:=(by have:=HS.out;omega);have JL:=Ao4 hsz;rw [←Eo]at Nt;have hjb:j<=1+9:=T9;clear ht Eo hlt hc hsz;go_wp2;clear Gv e AB
   go_loop [2,3,5] (fun z n i=>∃k:Nat,j+1<=k/\k<=j+1+m2.length/\k<=j+1+9/\z=.int .i64 (-(val m:Int))/\i=.int .i64 (k:Nat)/\n=.int .i64 (val (m2.take (k-(j+1))):Nat)) (fun _ _ i=>s.size-(intOf i).toNat)
   case atStart=>exact⟨j+1,by omega,by omega,by omega,rfl,by go_num,by simp [Mp]⟩
   case round=>
    obtain⟨k,hk0,DX,OI,rfl,rfl,rfl⟩:=hrel;have Af7:k<=s.size:=(by have:=JL.out;omega);by_cases hlt2:k<j+1+m2.length
    ·by_cases h9:k=j+1+9
     ·have Jv:k<s.size:=(by have:=JL.out;omega);have Jo:((k:Int)-((j:Int)+1) == 9)=true:=(by rw [beq_iff_eq];omega);have eY:(k:Int)<(s.size:Int):=(by omega);have eS:(0:Int)<=(k:Int):=(by omega);have HV:Hid (Fj true m m2=.tuple #[.int .i64 0,.int .i64 0,.bool false]):=Ao4 (QY (.inr (by omega)));clear h9;go_wp2;go_ret3;exact⟨IP HV.out,rfl⟩
     ·obtain⟨c,v,Jv,e,d1,d2,Gv,hv,Agw,hn⟩:=Nt.digit' hk0 hlt2 (by omega);have Jo:((k:Int)-((j:Int)+1) == 9)=false:=(by rw [beq_eq_false_iff_ne];omega);have eY:(k:Int)<(s.size:Int):=(by omega);have eS:(0:Int)<=(k:Int):=(by omega);rw [←hv];have HN:=Ao4 hn;clear hv hn Gv;go_wp2
      go_round
      case rel=>exact⟨k+1,by omega,by omega,by omega,rfl,by go_num,by rw [HN.out]⟩
      case measure=>simp [intOf];omega
    ·have TB:k=j+1+m2.length:=(by omega);have N2:m2.take (k-(j+1))=m2:=(by rw [TB];simp);have HV:Hid (Fj true m m2=.tuple #[.int .i64 (-(val m:Int)),.int .i64 (val m2:Nat),.bool true]):=Ao4 (Yk De (by omega));have hle:(s.size:Int)<=(k:Int):=(by have:=JL.out;omega);rw [N2];clear N2 TB hlt2;go_wp2;go_ret3;exact⟨IP HV.out,rfl⟩
theorem Sb(l:Bs)(j:Nat)(h:j<(⟨l.toArray⟩:ByteArray).size):(⟨l.toArray⟩:ByteArray)[j]=l.getD j 0:=by
 have h':j<l.length:=(by simpa [ByteArray.size]using h);rw [ByteArray.getElem_eq_getElem_data];simp [List.getD,h']
theorem FX(l:Bs):(⟨l.toArray⟩:ByteArray).size=l.length:=by simp [ByteArray.size]
theorem Rh(pre m suf:Bs)(hm:Ch m):Seg ⟨(pre++m++suf).toArray⟩ pre.length m:=
 ⟨by rw [FX];simp,hm,fun j h h1 h2=>by
  rw [Sb];simp only [List.getD_eq_getElem?_getD]
  rw [List.append_assoc,List.getElem?_append_right h1,List.getElem?_append_left (by omega)]⟩
theorem Aju(q:Rat):QW q=Fj (decide (q<0)) (D q.num.natAbs) (D q.den):=by
 unfold QW Fj
 split
 ·rw [IT,IT];by_cases h:q<0
  ·have:=J7.2 h;simp only [h,decide_true,if_true]
   congr 4;omega
  ·have:¬q.num<0:=fun k=>h (J7.1 k);simp only [h,decide_false,Bool.false_eq_true,if_false]
   congr 4;omega
 ·rfl
theorem UO:D 1 = [49]:=by rw [FQ (by omega)];rfl
theorem Vj{z:Int} : (z<0→I z=45::D z.natAbs)/\(¬z<0→I z=D z.natAbs):=by
 constructor
 ·intro h
  rcases E0 z with⟨n,rfl,e⟩|⟨n,hn,rfl,e⟩
  ·omega
  ·rw [e];simp
 ·intro h
  rcases E0 z with⟨n,rfl,e⟩|⟨n,hn,rfl,e⟩
  ·rw [e];simp
  ·omega
theorem AjE(q:Rat)(hl:(R q).length<=100000)(w:World):Calls Tryz.prog 186 #[S (R q)] w (fun e w'=>e=.returned (QW q)/\w=w'):=by
 rw [Aju];have hp:=UN q.num.natAbs;have TO:=UN q.den;by_cases hd:q.den=1
 ·rw [RJ hd]at hl ⊢;rw [hd,UO];by_cases hn:q.num<0
  ·rw [Vj.1 hn]at hl ⊢;rw [decide_eq_true (J7.1 hn)];have h:=Rh [45] (D q.num.natAbs) [] (Eh _);simp only [List.append_nil,List.singleton_append,List.length_singleton]at h;exact Ajy _ _ h (by rw [FX];simp;omega) (by rw [FX];exact hl) hp ⟨by rw [FX];simp,rfl⟩ w
  ·rw [Vj.2 hn]at hl ⊢;rw [decide_eq_false (fun k=>hn (J7.2 k))];have h:=Rh [] (D q.num.natAbs) [] (Eh _);simp only [List.append_nil,List.nil_append,List.length_nil]at h;exact Ajx _ _ h (by rw [FX];simp) (by rw [FX];exact hl) hp w
 ·rw [Vp hd]at hl ⊢;by_cases hn:q.num<0
  ·rw [Vj.1 hn]at hl ⊢;rw [decide_eq_true (J7.1 hn)];have h:=Rh [45] (D q.num.natAbs) (47::D q.den) (Eh _);have h2:=Rh (45::D q.num.natAbs ++ [47]) (D q.den) [] (Eh _);simp only [List.append_nil,List.length_singleton,List.append_assoc,List.cons_append]at h h2;rw [show (45::(D q.num.natAbs ++ [47])).length=1+(D q.num.natAbs).length+1 by simp;omega]at h2;exact Ajw _ _ _ h h2 (by rw [FX];simp;omega) TO ⟨by rw [FX];simp;omega,by rw [Sb];simp [List.getD,Nat.add_comm 1]⟩ (by rw [FX];exact hl) hp ⟨by rw [FX];simp,rfl⟩ w
  ·rw [Vj.2 hn]at hl ⊢;rw [decide_eq_false (fun k=>hn (J7.2 k))];have h:=Rh [] (D q.num.natAbs) (47::D q.den) (Eh _);have h2:=Rh (D q.num.natAbs ++ [47]) (D q.den) [] (Eh _);simp only [List.append_nil,List.nil_append,List.length_nil,List.append_assoc,List.cons_append]at h h2;rw [show List.length (D q.num.natAbs ++ [(47:UInt8)])=0+(D q.num.natAbs).length+1 by simp]at h2;exact Ajv _ _ _ h h2 (by rw [FX];simp;omega) TO ⟨by rw [FX];simp,by rw [Sb];simp [List.getD]⟩ (by rw [FX];exact hl) hp w
def zs(l:List Int):List Value:=l.map fun x=>.int .i64 x
def zn(l:List Nat):List Int:=l.map fun (x:Nat)=>(x:Int)
/-! ### carry -/
/-! ### joined -/
/-! ### times -/
/-! ### parts: one digit of a quotient -/
theorem Tryz.infoI:(Tryz.prog.info? 3).map (fun i=>(i.zero,i.size,i.bytes))=some (some (.int .i64 0),1,8):=by kernel_rfl
theorem AhW(n:Nat)(hn:n<=200000)(c:Int)(hc:c=(n:Int))(W:World) :
  (Instr.makeSlice 76 (.int .i64 c) (.int .i64 c)).run Tryz.prog W=.ok (.slice (some ⟨W.heap.size,0,none⟩) n n) (W.alloc (.cells (madeCells #[.int .i64 0] n) 3)):=by
 subst hc;obtain⟨i0,hi,hz0,hz1,hz2⟩:=info_parts Tryz.infoI;have h:=run_make (P:=Tryz.prog) W 76 3 i0 (.int .i64 0) Tryz.underlying76 hi hz0 .i64 .i64 n n (by omega) (by omega) (by rw [hz2];omega) (by omega);rw [hz1,Nat.mul_one]at h;simp only [Int.toNat_natCast]at h;exact h
theorem od(W:World)(base n:Nat)(hb:base<=W.heap.size)(hn:n<=200000) :
  (W.alloc (.cells (madeCells #[.int .i64 0] n) 3)).ownsRow base 3 1 (.slice (some ⟨W.heap.size,0,none⟩) n n) n (zs (zn (List.replicate n 0))):=by
 have h:=World.ownsRow_lit (w:=W) (base:=base) (e:=3) (size:=1) (madeCells #[.int .i64 0] n) n hb (by unfold maxLen;omega) (by rw [size_madeCells];omega);rw [toList_madeCells_one]at h
 simpa [zs,zn]using h
end Go.Proofs.YtnddllipjippnaaGreatDoor
namespace Go.Proofs.YtnddllipjippnaaGreatDoor
/-! ### take -/
end Go.Proofs.YtnddllipjippnaaGreatDoor
