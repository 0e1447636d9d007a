/- I01: Shelf RL. -/
import Derived.Shelf.Small.Bits
import Derived.Shelf.Small.Strs
import Derived.Shelf.Small.Wraps
import Derived.Shelf.Strconv.Itoa3
import Derived.Shelf.Strconv.ErrVar
import Derived.Shelf.Strconv.ErrVarAll
import Derived.Shelf.Strconv.ParseInt10All
import Derived.Shelf.Pu.ErrVarParseUint
import Derived.Shelf.Strings.Shaped
import Derived.Shelf.Bits.Mul64
import Derived.Shelf.Strings.BuilderCap
import Derived.Shelf.Slices.Turned
import Derived.Shelf.Slices.Clone
import Derived.Shelf.Slices.Delete
import Derived.Test.YtnddllipjippnaaGreatDoorProg
import Derived.StillTail
import Derived.OrdersHeld
namespace Go.Proofs
open Go.Shelf
def Tryz.lays106_ren:Go.Shelf.Ren:=⟨fun|106=>204|213=>254|265=>290|n=>n,fun|9=>9|3=>3|n=>n,fun|n=>n⟩
theorem Tryz.lays106:Go.Proofs.Lays.n106 Tryz.prog Tryz.lays106_ren:={
 mixed:=by kernel_rfl
 f106:=Tryz.func204.trans (congrArg some (by kernel_rfl))
 f213:=Tryz.func254.trans (congrArg some (by kernel_rfl))
 f265:=Tryz.func290.trans (congrArg some (by kernel_rfl))
 t3:=Tryz.underlying3
 a3:=Tryz.isAgg3
 z3:=Tryz.sizeOf3
 v3:=Tryz.zeroValue3
 t9:=Tryz.underlying9
 a9:=Tryz.isAgg9
 z9:=Tryz.sizeOf9
 v9:=Tryz.zeroValue9}
open Go.RowKit in
theorem Tryz.strings_Compare(a b:ByteArray)(w:World) :
  Calls Tryz.prog 204 #[.string a,.string b] w fun e w'=>e=.returned (.int .i64 (Lib.compareBytes a.data.toList b.data.toList))/\w'=w:=Any.strings_Compare Tryz.lays106 a b w
def Tryz.lays103_ren:Go.Shelf.Ren:=⟨fun|103=>201|210=>251|206=>289|n=>n,fun|9=>9|4=>4|24=>265|3=>3|n=>n,fun|n=>n⟩
theorem Tryz.lays103:Go.Proofs.Lays.n103 Tryz.prog Tryz.lays103_ren:={
 mixed:=by kernel_rfl
 f103:=Tryz.func201.trans (congrArg some (by kernel_rfl))
 f206:=Tryz.func289.trans (congrArg some (by kernel_rfl))
 f210:=Tryz.func251.trans (congrArg some (by kernel_rfl))
 t3:=Tryz.underlying3
 a3:=Tryz.isAgg3
 z3:=Tryz.sizeOf3
 v3:=Tryz.zeroValue3
 t4:=Tryz.underlying4
 a4:=Tryz.isAgg4
 z4:=Tryz.sizeOf4
 v4:=Tryz.zeroValue4
 t9:=Tryz.underlying9
 a9:=Tryz.isAgg9
 z9:=Tryz.sizeOf9
 v9:=Tryz.zeroValue9
 t24:=Tryz.underlying265
 a24:=Tryz.isAgg265
 z24:=Tryz.sizeOf265
 v24:=Tryz.zeroValue265}
open Go.RowKit in
theorem Tryz.strings_CutPrefix(s p:ByteArray)(w:World) :
  Calls Tryz.prog 201 #[.string s,.string p] w fun e w'=>e=.returned (.tuple #[.string ⟨(Lib.trimPrefix s.data.toList p.data.toList).toArray⟩,.bool (Lib.hasPrefix s.data.toList p.data.toList)])/\w'=w:=Any.strings_CutPrefix Tryz.lays103 s p w
def Tryz.laysM171_ren:Go.Shelf.Ren:=⟨fun|171=>161|243=>199|246=>249|283=>281|284=>282|285=>283|286=>284|129=>232|317=>299|318=>300|319=>301|320=>302|337=>308|338=>309|n=>n,fun|3=>3|9=>9|2=>2|4=>4|171=>332|0=>0|53=>179|37=>113|5=>5|173=>334|212=>348|51=>176|20=>20|213=>349|46=>105|232=>357|233=>358|n=>n,fun|17=>3|18=>4|19=>5|n=>n⟩
theorem Tryz.laysM171:Go.Proofs.LaysM.n171 Tryz.prog Tryz.laysM171_ren:={
 mixed:=by kernel_rfl
 f129:=Tryz.func232.trans (congrArg some (by kernel_rfl))
 f171:=Tryz.func161.trans (congrArg some (by kernel_rfl))
 f243:=Tryz.func199.trans (congrArg some (by kernel_rfl))
 f246:=Tryz.func249.trans (congrArg some (by kernel_rfl))
 f283:=Tryz.func281.trans (congrArg some (by kernel_rfl))
 f284:=Tryz.func282.trans (congrArg some (by kernel_rfl))
 f285:=Tryz.func283.trans (congrArg some (by kernel_rfl))
 f286:=Tryz.func284.trans (congrArg some (by kernel_rfl))
 f317:=Tryz.func299.trans (congrArg some (by kernel_rfl))
 f318:=Tryz.func300.trans (congrArg some (by kernel_rfl))
 f319:=Tryz.func301.trans (congrArg some (by kernel_rfl))
 f320:=Tryz.func302.trans (congrArg some (by kernel_rfl))
 f337:=Tryz.func308.trans (congrArg some (by kernel_rfl))
 f338:=Tryz.func309.trans (congrArg some (by kernel_rfl))
 t0:=Tryz.underlying0
 a0:=Tryz.isAgg0
 z0:=Tryz.sizeOf0
 v0:=Tryz.zeroValue0
 t2:=Tryz.underlying2
 a2:=Tryz.isAgg2
 z2:=Tryz.sizeOf2
 v2:=Tryz.zeroValue2
 t3:=Tryz.underlying3
 a3:=Tryz.isAgg3
 z3:=Tryz.sizeOf3
 v3:=Tryz.zeroValue3
 t4:=Tryz.underlying4
 a4:=Tryz.isAgg4
 z4:=Tryz.sizeOf4
 v4:=Tryz.zeroValue4
 t5:=Tryz.underlying5
 a5:=Tryz.isAgg5
 z5:=Tryz.sizeOf5
 v5:=Tryz.zeroValue5
 t9:=Tryz.underlying9
 a9:=Tryz.isAgg9
 z9:=Tryz.sizeOf9
 v9:=Tryz.zeroValue9
 t20:=Tryz.underlying20
 a20:=Tryz.isAgg20
 z20:=Tryz.sizeOf20
 v20:=Tryz.zeroValue20
 t37:=Tryz.underlying113
 a37:=Tryz.isAgg113
 z37:=Tryz.sizeOf113
 v37:=Tryz.zeroValue113
 t46:=Tryz.underlying105
 a46:=Tryz.isAgg105
 z46:=Tryz.sizeOf105
 v46:=Tryz.zeroValue105
 t51:=Tryz.underlying176
 a51:=Tryz.isAgg176
 z51:=Tryz.sizeOf176
 v51:=Tryz.zeroValue176
 t53:=Tryz.underlying179
 a53:=Tryz.isAgg179
 z53:=Tryz.sizeOf179
 v53:=Tryz.zeroValue179
 t171:=Tryz.underlying332
 a171:=Tryz.isAgg332
 z171:=Tryz.sizeOf332
 v171:=Tryz.zeroValue332
 t173:=Tryz.underlying334
 a173:=Tryz.isAgg334
 z173:=Tryz.sizeOf334
 v173:=Tryz.zeroValue334
 t212:=Tryz.underlying348
 a212:=Tryz.isAgg348
 z212:=Tryz.sizeOf348
 v212:=Tryz.zeroValue348
 t213:=Tryz.underlying349
 a213:=Tryz.isAgg349
 z213:=Tryz.sizeOf349
 t232:=Tryz.underlying357
 a232:=Tryz.isAgg357
 z232:=Tryz.sizeOf357
 v232:=Tryz.zeroValue357
 t233:=Tryz.underlying358
 a233:=Tryz.isAgg358
 z233:=Tryz.sizeOf358
 v233:=Tryz.zeroValue358
 g17:=by kernel_rfl
 g18:=by kernel_rfl
 g19:=by kernel_rfl
 i0:=by kernel_rfl
 i2:=by kernel_rfl
 i3:=by kernel_rfl
 i4:=by kernel_rfl
 i5:=by kernel_rfl
 i9:=by kernel_rfl
 i20:=by kernel_rfl
 i37:=by kernel_rfl
 i46:=by kernel_rfl
 i51:=by kernel_rfl
 i53:=by kernel_rfl
 i171:=by kernel_rfl
 i173:=by kernel_rfl
 i212:=by kernel_rfl
 i232:=by kernel_rfl
 i233:=by kernel_rfl
 m17:=by kernel_rfl
 m18:=by kernel_rfl
 m19:=by kernel_rfl}
open Go.RowKit Go.Sort Go.Lib in
theorem Tryz.strconv_Itoa(n:Int)(h0:-9223372036854775808<=n)(h1:n<=9223372036854775807)(w:World)(htab:Lib.TabIs Tryz.prog w "internal/strconv.uint64pow10" .u64 Lib.pow10Tab) :
  Calls Tryz.prog 161 #[.int .i64 n] w fun e w'=>e=.returned (.string ⟨(Lib.itoa n).toArray⟩)/\∃k os,w'=grow (w.drewN k) os:=Any.strconv_Itoa Tryz.laysM171 n h0 h1 w htab
def Tryz.laysC172_ren:Go.Shelf.Ren:=⟨fun|172=>191|244=>242|245=>243|247=>276|279=>277|280=>278|281=>279|282=>280|287=>291|316=>297|171=>161|205=>298|321=>305|322=>306|243=>199|246=>249|283=>281|284=>282|285=>283|286=>284|129=>232|317=>299|318=>300|319=>301|320=>302|337=>308|338=>309|n=>n,fun|9=>9|3=>3|75=>254|76=>255|4=>4|5=>5|167=>326|37=>113|0=>0|85=>327|2=>2|168=>329|53=>179|175=>301|46=>105|210=>345|127=>338|145=>356|143=>354|21=>21|171=>332|173=>334|212=>348|51=>176|20=>20|213=>349|232=>357|233=>358|80=>314|n=>n,fun|15=>1|16=>2|17=>3|18=>4|19=>5|n=>n⟩
theorem Tryz.laysC172:Go.Proofs.LaysC.n172 Tryz.prog Tryz.laysC172_ren:={
 mixed:=by kernel_rfl
 f129:=Tryz.func232.trans (congrArg some (by kernel_rfl))
 f171:=Tryz.func161.trans (congrArg some (by kernel_rfl))
 f172:=Tryz.func191.trans (congrArg some (by kernel_rfl))
 f205:=Tryz.func298.trans (congrArg some (by kernel_rfl))
 f243:=Tryz.func199.trans (congrArg some (by kernel_rfl))
 f244:=Tryz.func242.trans (congrArg some (by kernel_rfl))
 f245:=Tryz.func243.trans (congrArg some (by kernel_rfl))
 f246:=Tryz.func249.trans (congrArg some (by kernel_rfl))
 f247:=Tryz.func276.trans (congrArg some (by kernel_rfl))
 f279:=Tryz.func277.trans (congrArg some (by kernel_rfl))
 f280:=Tryz.func278.trans (congrArg some (by kernel_rfl))
 f281:=Tryz.func279.trans (congrArg some (by kernel_rfl))
 f282:=Tryz.func280.trans (congrArg some (by kernel_rfl))
 f283:=Tryz.func281.trans (congrArg some (by kernel_rfl))
 f284:=Tryz.func282.trans (congrArg some (by kernel_rfl))
 f285:=Tryz.func283.trans (congrArg some (by kernel_rfl))
 f286:=Tryz.func284.trans (congrArg some (by kernel_rfl))
 f287:=Tryz.func291.trans (congrArg some (by kernel_rfl))
 f316:=Tryz.func297.trans (congrArg some (by kernel_rfl))
 f317:=Tryz.func299.trans (congrArg some (by kernel_rfl))
 f318:=Tryz.func300.trans (congrArg some (by kernel_rfl))
 f319:=Tryz.func301.trans (congrArg some (by kernel_rfl))
 f320:=Tryz.func302.trans (congrArg some (by kernel_rfl))
 f321:=Tryz.func305.trans (congrArg some (by kernel_rfl))
 f322:=Tryz.func306.trans (congrArg some (by kernel_rfl))
 f337:=Tryz.func308.trans (congrArg some (by kernel_rfl))
 f338:=Tryz.func309.trans (congrArg some (by kernel_rfl))
 t0:=Tryz.underlying0
 a0:=Tryz.isAgg0
 z0:=Tryz.sizeOf0
 v0:=Tryz.zeroValue0
 t2:=Tryz.underlying2
 a2:=Tryz.isAgg2
 z2:=Tryz.sizeOf2
 v2:=Tryz.zeroValue2
 t3:=Tryz.underlying3
 a3:=Tryz.isAgg3
 z3:=Tryz.sizeOf3
 v3:=Tryz.zeroValue3
 t4:=Tryz.underlying4
 a4:=Tryz.isAgg4
 z4:=Tryz.sizeOf4
 v4:=Tryz.zeroValue4
 t5:=Tryz.underlying5
 a5:=Tryz.isAgg5
 z5:=Tryz.sizeOf5
 v5:=Tryz.zeroValue5
 t9:=Tryz.underlying9
 a9:=Tryz.isAgg9
 z9:=Tryz.sizeOf9
 v9:=Tryz.zeroValue9
 t20:=Tryz.underlying20
 a20:=Tryz.isAgg20
 z20:=Tryz.sizeOf20
 v20:=Tryz.zeroValue20
 t21:=Tryz.underlying21
 a21:=Tryz.isAgg21
 z21:=Tryz.sizeOf21
 v21:=Tryz.zeroValue21
 t37:=Tryz.underlying113
 a37:=Tryz.isAgg113
 z37:=Tryz.sizeOf113
 v37:=Tryz.zeroValue113
 t46:=Tryz.underlying105
 a46:=Tryz.isAgg105
 z46:=Tryz.sizeOf105
 v46:=Tryz.zeroValue105
 t51:=Tryz.underlying176
 a51:=Tryz.isAgg176
 z51:=Tryz.sizeOf176
 v51:=Tryz.zeroValue176
 t53:=Tryz.underlying179
 a53:=Tryz.isAgg179
 z53:=Tryz.sizeOf179
 v53:=Tryz.zeroValue179
 t75:=Tryz.underlying254
 a75:=Tryz.isAgg254
 z75:=Tryz.sizeOf254
 v75:=Tryz.zeroValue254
 t76:=Tryz.underlying255
 a76:=Tryz.isAgg255
 z76:=Tryz.sizeOf255
 v76:=Tryz.zeroValue255
 t85:=Tryz.underlying327
 a85:=Tryz.isAgg327
 z85:=Tryz.sizeOf327
 v85:=Tryz.zeroValue327
 t127:=Tryz.underlying338
 a127:=Tryz.isAgg338
 z127:=Tryz.sizeOf338
 v127:=Tryz.zeroValue338
 t143:=Tryz.underlying354
 a143:=Tryz.isAgg354
 z143:=Tryz.sizeOf354
 v143:=Tryz.zeroValue354
 t145:=Tryz.underlying356
 a145:=Tryz.isAgg356
 z145:=Tryz.sizeOf356
 v145:=Tryz.zeroValue356
 t167:=Tryz.underlying326
 a167:=Tryz.isAgg326
 z167:=Tryz.sizeOf326
 v167:=Tryz.zeroValue326
 t168:=Tryz.underlying329
 a168:=Tryz.isAgg329
 z168:=Tryz.sizeOf329
 v168:=Tryz.zeroValue329
 t171:=Tryz.underlying332
 a171:=Tryz.isAgg332
 z171:=Tryz.sizeOf332
 v171:=Tryz.zeroValue332
 t173:=Tryz.underlying334
 a173:=Tryz.isAgg334
 z173:=Tryz.sizeOf334
 v173:=Tryz.zeroValue334
 t175:=Tryz.underlying301
 a175:=Tryz.isAgg301
 z175:=Tryz.sizeOf301
 v175:=Tryz.zeroValue301
 t210:=Tryz.underlying345
 a210:=Tryz.isAgg345
 z210:=Tryz.sizeOf345
 v210:=Tryz.zeroValue345
 t212:=Tryz.underlying348
 a212:=Tryz.isAgg348
 z212:=Tryz.sizeOf348
 v212:=Tryz.zeroValue348
 t213:=Tryz.underlying349
 a213:=Tryz.isAgg349
 z213:=Tryz.sizeOf349
 t232:=Tryz.underlying357
 a232:=Tryz.isAgg357
 z232:=Tryz.sizeOf357
 v232:=Tryz.zeroValue357
 t233:=Tryz.underlying358
 a233:=Tryz.isAgg358
 z233:=Tryz.sizeOf358
 v233:=Tryz.zeroValue358
 g15:=by kernel_rfl
 g16:=by kernel_rfl
 g17:=by kernel_rfl
 g18:=by kernel_rfl
 g19:=by kernel_rfl
 t80:=Tryz.underlying314
 a80:=Tryz.isAgg314
 z80:=Tryz.sizeOf314
 v80:=Tryz.zeroValue314
 i0:=by kernel_rfl
 i2:=by kernel_rfl
 i3:=by kernel_rfl
 i4:=by kernel_rfl
 i5:=by kernel_rfl
 i9:=by kernel_rfl
 i20:=by kernel_rfl
 i21:=by kernel_rfl
 i37:=by kernel_rfl
 i46:=by kernel_rfl
 i51:=by kernel_rfl
 i53:=by kernel_rfl
 i75:=by kernel_rfl
 i76:=by kernel_rfl
 i80:=by kernel_rfl
 i85:=by kernel_rfl
 i127:=by kernel_rfl
 i143:=by kernel_rfl
 i145:=by kernel_rfl
 i167:=by kernel_rfl
 i168:=by kernel_rfl
 i171:=by kernel_rfl
 i173:=by kernel_rfl
 i175:=by kernel_rfl
 i210:=by kernel_rfl
 i212:=by kernel_rfl
 i232:=by kernel_rfl
 i233:=by kernel_rfl
 m15:=by kernel_rfl
 m16:=by kernel_rfl
 m17:=by kernel_rfl
 m18:=by kernel_rfl
 m19:=by kernel_rfl
 c0:=by kernel_rfl
 c2:=by kernel_rfl
 c3:=by kernel_rfl
 c4:=by kernel_rfl
 c5:=by kernel_rfl
 c9:=by kernel_rfl
 c20:=by kernel_rfl
 c21:=by kernel_rfl
 c37:=by kernel_rfl
 c46:=by kernel_rfl
 c51:=by kernel_rfl
 c53:=by kernel_rfl
 c75:=by kernel_rfl
 c76:=by kernel_rfl
 c80:=by kernel_rfl
 c85:=by kernel_rfl
 c127:=by kernel_rfl
 c143:=by kernel_rfl
 c145:=by kernel_rfl
 c167:=by kernel_rfl
 c168:=by kernel_rfl
 c171:=by kernel_rfl
 c173:=by kernel_rfl
 c175:=by kernel_rfl
 c210:=by kernel_rfl
 c212:=by kernel_rfl
 c213:=by kernel_rfl
 c232:=by kernel_rfl
 c233:=by kernel_rfl}
open Go.RowKit in
theorem Tryz.strconv_Atoi_ok(s:ByteArray)(hmax:s.size<=9223372036854775806)(v:Int)(h:Lib.atoiAll s.data.toList=.ok v)(w:World) :
  Calls Tryz.prog 191 #[.string s] w fun e w'=>e=.returned (.tuple #[.int .i64 v,.nilIface])/\(w'=w∨∃t,w'=Lib.bytesWorld w 5 t):=Any.strconv_Atoi_ok Tryz.laysC172 s hmax v h w
def Tryz.laysM145_ren:Go.Shelf.Ren:=⟨fun|145=>163|220=>200|219=>250|217=>285|225=>286|224=>287|267=>288|266=>303|314=>304|n=>n,fun|9=>9|4=>4|59=>228|3=>3|5=>5|46=>105|146=>177|51=>176|n=>n,fun|1=>0|n=>n⟩
theorem Tryz.laysM145:Go.Proofs.LaysM.n145 Tryz.prog Tryz.laysM145_ren:={
 mixed:=by kernel_rfl
 f145:=Tryz.func163.trans (congrArg some (by kernel_rfl))
 f217:=Tryz.func285.trans (congrArg some (by kernel_rfl))
 f219:=Tryz.func250.trans (congrArg some (by kernel_rfl))
 f220:=Tryz.func200.trans (congrArg some (by kernel_rfl))
 f224:=Tryz.func287.trans (congrArg some (by kernel_rfl))
 f225:=Tryz.func286.trans (congrArg some (by kernel_rfl))
 f266:=Tryz.func303.trans (congrArg some (by kernel_rfl))
 f267:=Tryz.func288.trans (congrArg some (by kernel_rfl))
 f314:=Tryz.func304.trans (congrArg some (by kernel_rfl))
 t3:=Tryz.underlying3
 a3:=Tryz.isAgg3
 z3:=Tryz.sizeOf3
 v3:=Tryz.zeroValue3
 t4:=Tryz.underlying4
 a4:=Tryz.isAgg4
 z4:=Tryz.sizeOf4
 v4:=Tryz.zeroValue4
 t5:=Tryz.underlying5
 a5:=Tryz.isAgg5
 z5:=Tryz.sizeOf5
 v5:=Tryz.zeroValue5
 t9:=Tryz.underlying9
 a9:=Tryz.isAgg9
 z9:=Tryz.sizeOf9
 v9:=Tryz.zeroValue9
 t46:=Tryz.underlying105
 a46:=Tryz.isAgg105
 z46:=Tryz.sizeOf105
 v46:=Tryz.zeroValue105
 t51:=Tryz.underlying176
 a51:=Tryz.isAgg176
 z51:=Tryz.sizeOf176
 v51:=Tryz.zeroValue176
 t59:=Tryz.underlying228
 a59:=Tryz.isAgg228
 z59:=Tryz.sizeOf228
 v59:=Tryz.zeroValue228
 t146:=Tryz.underlying177
 a146:=Tryz.isAgg177
 z146:=Tryz.sizeOf177
 v146:=Tryz.zeroValue177
 g1:=by kernel_rfl
 i3:=by kernel_rfl
 i4:=by kernel_rfl
 i5:=by kernel_rfl
 i9:=by kernel_rfl
 i46:=by kernel_rfl
 i51:=by kernel_rfl
 i59:=by kernel_rfl
 i146:=by kernel_rfl
 m1:=by kernel_rfl
 s1_3:=fun w h=>Go.Proofs.cell_of_shapedOpen_int (zero:=#[.int .i64 0]) (t:=3) h (of_decide_eq_true (by kernel_rfl)) (by kernel_rfl) rfl (by kernel_rfl) (by kernel_rfl) Tryz.underlying3}
open Go.RowKit Go.Lib in
theorem Tryz.strings_Cut_shaped(s sep:ByteArray)(w:World)(h:w.ShapedOpen Tryz.prog)(hs:s.size<4294967281) :
  Calls Tryz.prog 163 #[.string s,.string sep] w fun e w'=>e=.returned (.tuple #[.string ⟨(Lib.cut s.data.toList sep.data.toList).1.toArray⟩,.string ⟨(Lib.cut s.data.toList sep.data.toList).2.1.toArray⟩,.bool (Lib.cut s.data.toList sep.data.toList).2.2])/\∃n,w'=w.drewN n:=Any.strings_Cut_shaped Tryz.laysM145 s sep w h hs
def Tryz.lays99_ren:Go.Shelf.Ren:=⟨fun|99=>252|206=>289|n=>n,fun|9=>9|4=>4|3=>3|n=>n,fun|n=>n⟩
theorem Tryz.lays99:Go.Proofs.Lays.n99 Tryz.prog Tryz.lays99_ren:={
 mixed:=by kernel_rfl
 f99:=Tryz.func252.trans (congrArg some (by kernel_rfl))
 f206:=Tryz.func289.trans (congrArg some (by kernel_rfl))
 t3:=Tryz.underlying3
 a3:=Tryz.isAgg3
 z3:=Tryz.sizeOf3
 v3:=Tryz.zeroValue3
 t4:=Tryz.underlying4
 a4:=Tryz.isAgg4
 z4:=Tryz.sizeOf4
 v4:=Tryz.zeroValue4
 t9:=Tryz.underlying9
 a9:=Tryz.isAgg9
 z9:=Tryz.sizeOf9
 v9:=Tryz.zeroValue9}
open Go.RowKit Go.Lib in
theorem Tryz.strings_HasPrefix(s p:ByteArray)(w:World) :
  Calls Tryz.prog 252 #[.string s,.string p] w fun e w'=>e=.returned (.bool (Lib.hasPrefix s.data.toList p.data.toList))/\w'=w:=Any.strings_HasPrefix Tryz.lays99 s p w
def Tryz.lays101_ren:Go.Shelf.Ren:=⟨fun|101=>203|208=>253|206=>289|n=>n,fun|9=>9|4=>4|3=>3|n=>n,fun|n=>n⟩
theorem Tryz.lays101:Go.Proofs.Lays.n101 Tryz.prog Tryz.lays101_ren:={
 mixed:=by kernel_rfl
 f101:=Tryz.func203.trans (congrArg some (by kernel_rfl))
 f206:=Tryz.func289.trans (congrArg some (by kernel_rfl))
 f208:=Tryz.func253.trans (congrArg some (by kernel_rfl))
 t3:=Tryz.underlying3
 a3:=Tryz.isAgg3
 z3:=Tryz.sizeOf3
 v3:=Tryz.zeroValue3
 t4:=Tryz.underlying4
 a4:=Tryz.isAgg4
 z4:=Tryz.sizeOf4
 v4:=Tryz.zeroValue4
 t9:=Tryz.underlying9
 a9:=Tryz.isAgg9
 z9:=Tryz.sizeOf9
 v9:=Tryz.zeroValue9}
open Go.RowKit Go.Lib in
theorem Tryz.strings_TrimPrefix(s p:ByteArray)(w:World) :
  Calls Tryz.prog 203 #[.string s,.string p] w fun e w'=>e=.returned (.string ⟨(Lib.trimPrefix s.data.toList p.data.toList).toArray⟩)/\w'=w:=Any.strings_TrimPrefix Tryz.lays101 s p w
end Go.Proofs
namespace Go.Proofs.YtnddllipjippnaaGreatDoor
open Go.RowKit
section
variable {P : Program} {ops : Array Oper} {Q : Exit → Act → World → Prop} {S : World → Prop} {T : List Nat}
def L1(P:Program)(ops:Array Oper)(Q:Exit→Act→World→Prop)(S:World→Prop)(T:List Nat):Nat→Array Bool→Act→World→Prop
 | 0,l,a,w=>Region.ready .any ops l = []/\Q .normal a w
 | f+1,l,a,w=>(Region.ready .any ops l = []→Q .normal a w)/\∀i∈Region.ready .any ops l,wpOp P ops Q i (fun a' w'=>(T.contains i=false→S w')/\L1 P ops Q S T f (l.setIfInBounds i true) a' w') a w
theorem AcJ:∀(f:Nat) (l:Array Bool) (a:Act) (w:World),L1 P ops Q S T f l a w→wpAny P .any ops Q f l a w
 | 0,_,_,_,h=>h
 | f+1,_,_,_,h=>⟨h.1,fun i hi=>wpOp_mono (fun a' w' h'=>AcJ f _ a' w' h'.2) (h.2 i hi)⟩
def Qe(ops:Array Oper)(l:Array Bool):Prop:=∀j o,ops[j]?=some o→l.getD j false=true→∀e∈o.after,Region.binds .any e=true→l.getD e.on false=true
def Sm(ops:Array Oper):Nat→Nat→Nat→Bool
 | 0,_,_=>false
 | f+1,t,i=>match ops[t]? with
  | some o=>o.after.any fun e=>Region.binds .any e && (e.on == i || Sm ops f e.on i)
  | none=>false
theorem Abx{l:Array Bool}(hc:Qe ops l){i:Nat} : ∀(f t:Nat),Sm ops f t i=true→(∀o,ops[t]?=some o→∀e∈o.after,Region.binds .any e=true→l.getD e.on false=true)→l.getD i false=true
 | 0,_,h,_=>by cases h
 | f+1,t,h,hd=>by
  unfold Sm at h
  split at h
  ·rename_i o ho
   obtain⟨e,he,hb⟩:=Array.any_eq_true'.1 h;simp only [Bool.and_eq_true,Bool.or_eq_true,beq_iff_eq]at hb;have h1:=hd o ho e he hb.1
   rcases hb.2 with h2|h2
   ·rw [←h2];exact h1
   ·exact Abx hc f e.on h2 (fun o' lH e' he' hb'=>hc e.on o' lH h1 e' he' hb')
  ·cases h
theorem Qe.set{l:Array Bool}{i:Nat}(h:Qe ops l)(hi:i∈Region.ready .any ops l):Qe ops (l.setIfInBounds i true):=by
 obtain⟨_,oi,hoi,hall⟩:=mem_ready.1 hi;intro j o ho hl e he hb
 have key:l.getD e.on false=true:=by
  by_cases Bj:i=j
  ·subst Bj;obtain rfl:o=oi:=Option.some.inj (ho.symm.trans hoi);exact hall e he hb
  ·rw [getD_set_ne false Bj]at hl;exact h j o ho hl e he hb
 by_cases UF:i=e.on
 ·subst UF
  have hlt:e.on<l.size:=by
   rcases Nat.lt_or_ge e.on l.size with h'|h'
   ·exact h'
   ·simp [Array.getElem?_eq_none h']at key
  simp [hlt]
 ·rw [getD_set_ne false UF];exact key
theorem ApA{i:Nat}(hT:T.contains i=false)(hreach:∀t,T.contains t=true→∃f,Sm ops f t i=true){oi:Oper}{v:Value}(hi:ops[i]?=some oi)(tu:∀(j:Nat) (o:Oper) cs b,ops[j]?=some o→o.op≠.select cs b)
  (hQ:∀c a w,Q (.panic c) (a.put oi.dst v) w→Q (.panic c) a w):∀(f:Nat) (l:Array Bool) (a:Act) (w:World),Qe ops l→
   (∀j oj,ops[j]?=some oj→j≠i→l.getD j true=false→(∀e∈oj.after,Region.binds .any e=true→e.on≠i)→oi.apart ops oj=true)→
   i∈Region.ready .any ops l→YieldsIf P ops S oi v a→S w→L1 P ops Q S T f (l.setIfInBounds i true) (a.put oi.dst v) w→L1 P ops Q S T (f+1) l a w:=by
 intro f
 induction f with
 | zero=>
  intro l a w inv _ hr hy hS H;refine⟨fun h=>(by rw [h]at hr;cases hr),fun j hj=>?_⟩;by_cases Hz:j=i
  ·subst Hz;exact hy.wpOp hi hS ⟨fun _=>hS,H⟩
  ·have:=ready_mono hj Hz;rw [H.1]at this
   cases this
 | succ f ih=>
  intro l a w inv UB hr hy hS H;have AG:=(mem_ready.1 hr).1;refine⟨fun h=>(by rw [h]at hr;cases hr),fun j hj=>?_⟩;by_cases Hz:j=i
  ·subst Hz;exact hy.wpOp hi hS ⟨fun _=>hS,H⟩
  ·have h1:=H.2 j (ready_mono hj Hz);obtain⟨nz,oj,NY,hall⟩:=mem_ready.1 hj
   have hjT:T.contains j=false:=by
    cases e:T.contains j
    ·rfl
    ·obtain⟨f',hf'⟩:=hreach j e;have:=Abx inv f' j hf' (fun o ho=>by obtain rfl:oj=o:=Option.some.inj (NY.symm.trans ho);exact hall);rw [getD_both AG]at this
     cases this
   have AjB:∀e∈oj.after,Region.binds .any e=true→e.on≠i:=fun e he hb heq=>by
    have h2:=hall e he hb;rw [heq,getD_both AG]at h2
    cases h2
   have h2:=wpOp_putIf NY (UB j oj NY Hz nz AjB) (fun cs b=>tu i oi cs b hi) (fun cs b=>tu j oj cs b NY) hQ hy h1;refine wpOp_mono (fun a' w' h3=>⟨h3.2.1,ih (l.setIfInBounds j true) a' w' (inv.set hj) (fun k ok hk I8 ox hno=>UB k ok hk I8 ?_ hno) (ready_mono hr (Ne.symm Hz)) h3.1 (h3.2.1 hjT) ?_⟩) h2
   ·by_cases hjk:j=k
    ·subst hjk;exact nz
    ·rw [getD_set_ne true hjk]at ox;exact ox
   ·rw [Array.setIfInBounds_comm _ _ Hz];exact h3.2.2
def headB(ops:Array Oper)(T:List Nat)(i:Nat)(l:Array Bool):Bool:=
 Region.noSelect ops && !T.contains i&&T.all (fun t=>Sm ops ops.size t i)
  && (List.range ops.size).all (fun j=>!l.getD j false||match ops[j]? with|some o=>o.after.all (fun e=>!Region.binds .any e||l.getD e.on false)|none=>true)
theorem AiY{l:Array Bool}{i:Nat}(h:headB ops T i l=true):Qe ops l/\Region.noSelect ops=true/\T.contains i=false/\∀t,T.contains t=true→∃f,Sm ops f t i=true:=by
 unfold headB at h;simp only [Bool.and_eq_true,Bool.not_eq_true']at h;obtain⟨⟨⟨h1,h2⟩,h3⟩,h4⟩:=h;refine⟨fun j o ho hl e he hb=>?_,h1,h2,fun t ht=>⟨_,List.all_eq_true.1 h3 t (by simpa using ht)⟩⟩;have h7:=List.all_eq_true.1 h4 j (List.mem_range.2 (Array.getElem?_eq_some_iff.1 ho).1);rw [hl,ho]at h7;simp only [Bool.not_true,Bool.false_or]at h7;have h9:=Array.all_eq_true'.1 h7 e he;rw [hb]at h9
 simpa using h9
theorem DO{l0:List Oper}{i:Nat}{oi:Oper}{v:Value}{f:Nat}{l:Array Bool}{a:Act}{w:World}(hi:l0[i]?=some oi)(hb:(headB l0.toArray T i l&&Region.free .any l0.toArray l i&&(Region.ready .any l0.toArray l).contains i)=true)
  (hQ:∀c a w,Q (.panic c) (a.put oi.dst v) w→Q (.panic c) a w) (hS:S w) (hw:Region.wanted oi (yielded l0.toArray a.tmps)=true) (hy:∀w,S w→(execOp a.eval oi).run P w=.ok (.value v) w)
  (h:L1 P l0.toArray Q S T f (l.setIfInBounds i true) (a.put oi.dst v) w):L1 P l0.toArray Q S T (f+1) l a w:=by
 simp only [Bool.and_eq_true]at hb;obtain⟨⟨h1,h3⟩,h4⟩:=hb;obtain⟨inv,k1,k2,k3⟩:=AiY h1;have hi':l0.toArray[i]?=some oi:=(by simpa using hi);exact ApA k2 k3 hi' (Region.noSelect_spec k1) hQ f l a w inv (Region.free_spec hi' h3) (by simpa using h4) (.inl ⟨hw,hy⟩) hS h
theorem GU{l0:List Oper}{i:Nat}{oi:Oper}{f:Nat}{l:Array Bool}{a:Act}{w:World}(hi:l0[i]?=some oi)(hr:Region.ready .any l0.toArray l = [i])
  (h:∀K:Act→World→Prop,Hid (∀a w,(T.contains i=false→S w)→((T.contains i=false→S w)→L1 P l0.toArray Q S T f (l.setIfInBounds i true) a w)→K a w)→if Region.wanted oi (yielded l0.toArray a.tmps)=true then Oper.wp P oi a w K Q else K (a.put oi.dst undef) w):L1 P l0.toArray Q S T (f+1) l a w:=by
 refine⟨fun h0=>(by rw [hr]at h0;cases h0),fun j hj=>?_⟩;rw [hr]at hj;obtain rfl:j=i:=(by simpa using hj);exact wpOp_step (by simpa using hi) (fun K hK=>h K (Lib.hid fun a w h1 h2=>hK a w ⟨h1,h2 h1⟩))
theorem yC{l:Array Bool}{a:Act}{w:World}(hr:Region.ready .any ops l = [])(h:Q .normal a w):∀f,L1 P ops Q S T f l a w
 | 0=>⟨hr,h⟩
 | _+1=>⟨fun _=>h,by rw [hr];simp⟩
theorem AcP{id:Nat}{a:Act}{w:World}(hm:P.follows .mixedOrders=true)(hS:S w.drew)(h:S w.drew→L1 P ops Q S T ops.size (Array.replicate ops.size false) a w.drew):(Code.region id ops true).wp P Q a w:=
 wp_region_any hm (AcJ _ _ _ _ (h hS))
end
end Go.Proofs.YtnddllipjippnaaGreatDoor
