/- K01: Shelf RL. -/
import Derived.Shelf.Small.Strs
import Derived.Shelf.Small.Wraps
import Derived.Shelf.Strconv.Itoa3
import Derived.Shelf.Strconv.ErrVar
import Derived.Shelf.Strconv.ErrVarAll
import Derived.Shelf.Strconv.ParseInt10All
import Derived.Shelf.Pu.ErrVarParseUint
import Derived.Shelf.Strings.Shaped
import Derived.Shelf.Bits.Mul64
import Derived.Shelf.Strings.BuilderCap
import Derived.Shelf.Slices.Turned
import Derived.Shelf.Slices.Clone
import Derived.Shelf.Slices.CompactS
import Derived.Shelf.SlSortCmp.Insertion
import Derived.Test.YtgnejnampofhoaaGreatDoorProg
import Derived.StillTail
import Derived.OrdersHeld
namespace Go.Proofs
open Go.Shelf
def Tryz.lays106_ren:Go.Shelf.Ren:=⟨fun|106=>146|213=>240|265=>302|n=>n,fun|9=>9|3=>3|n=>n,fun|n=>n⟩
theorem Tryz.lays106:Go.Proofs.Lays.n106 Tryz.prog Tryz.lays106_ren:={
 mixed:=by kernel_rfl
 f106:=Tryz.func146.trans (congrArg some (by kernel_rfl))
 f213:=Tryz.func240.trans (congrArg some (by kernel_rfl))
 f265:=Tryz.func302.trans (congrArg some (by kernel_rfl))
 t3:=Tryz.underlying3
 a3:=Tryz.isAgg3
 z3:=Tryz.sizeOf3
 v3:=Tryz.zeroValue3
 t9:=Tryz.underlying9
 a9:=Tryz.isAgg9
 z9:=Tryz.sizeOf9
 v9:=Tryz.zeroValue9}
open Go.RowKit in
theorem Tryz.strings_Compare(a b:ByteArray)(w:World) :
  Calls Tryz.prog 146 #[.string a,.string b] w fun e w'=>e=.returned (.int .i64 (Lib.compareBytes a.data.toList b.data.toList))/\w'=w:=Any.strings_Compare Tryz.lays106 a b w
def Tryz.lays103_ren:Go.Shelf.Ren:=⟨fun|103=>343|210=>376|206=>378|n=>n,fun|9=>9|4=>4|24=>370|3=>3|n=>n,fun|n=>n⟩
theorem Tryz.lays103:Go.Proofs.Lays.n103 Tryz.prog Tryz.lays103_ren:={
 mixed:=by kernel_rfl
 f103:=Tryz.func343.trans (congrArg some (by kernel_rfl))
 f206:=Tryz.func378.trans (congrArg some (by kernel_rfl))
 f210:=Tryz.func376.trans (congrArg some (by kernel_rfl))
 t3:=Tryz.underlying3
 a3:=Tryz.isAgg3
 z3:=Tryz.sizeOf3
 v3:=Tryz.zeroValue3
 t4:=Tryz.underlying4
 a4:=Tryz.isAgg4
 z4:=Tryz.sizeOf4
 v4:=Tryz.zeroValue4
 t9:=Tryz.underlying9
 a9:=Tryz.isAgg9
 z9:=Tryz.sizeOf9
 v9:=Tryz.zeroValue9
 t24:=Tryz.underlying370
 a24:=Tryz.isAgg370
 z24:=Tryz.sizeOf370
 v24:=Tryz.zeroValue370}
open Go.RowKit in
theorem Tryz.strings_CutPrefix(s p:ByteArray)(w:World) :
  Calls Tryz.prog 343 #[.string s,.string p] w fun e w'=>e=.returned (.tuple #[.string ⟨(Lib.trimPrefix s.data.toList p.data.toList).toArray⟩,.bool (Lib.hasPrefix s.data.toList p.data.toList)])/\w'=w:=Any.strings_CutPrefix Tryz.lays103 s p w
def Tryz.laysM171_ren:Go.Shelf.Ren:=⟨fun|171=>185|243=>263|246=>312|283=>361|284=>362|285=>363|286=>364|129=>157|317=>386|318=>387|319=>388|320=>389|337=>398|338=>399|n=>n,fun|3=>3|9=>9|2=>2|4=>4|171=>393|0=>0|53=>149|37=>50|5=>5|173=>395|212=>413|51=>146|20=>20|213=>414|46=>103|232=>424|233=>425|n=>n,fun|17=>3|18=>4|19=>5|n=>n⟩
theorem Tryz.laysM171:Go.Proofs.LaysM.n171 Tryz.prog Tryz.laysM171_ren:={
 mixed:=by kernel_rfl
 f129:=Tryz.func157.trans (congrArg some (by kernel_rfl))
 f171:=Tryz.func185.trans (congrArg some (by kernel_rfl))
 f243:=Tryz.func263.trans (congrArg some (by kernel_rfl))
 f246:=Tryz.func312.trans (congrArg some (by kernel_rfl))
 f283:=Tryz.func361.trans (congrArg some (by kernel_rfl))
 f284:=Tryz.func362.trans (congrArg some (by kernel_rfl))
 f285:=Tryz.func363.trans (congrArg some (by kernel_rfl))
 f286:=Tryz.func364.trans (congrArg some (by kernel_rfl))
 f317:=Tryz.func386.trans (congrArg some (by kernel_rfl))
 f318:=Tryz.func387.trans (congrArg some (by kernel_rfl))
 f319:=Tryz.func388.trans (congrArg some (by kernel_rfl))
 f320:=Tryz.func389.trans (congrArg some (by kernel_rfl))
 f337:=Tryz.func398.trans (congrArg some (by kernel_rfl))
 f338:=Tryz.func399.trans (congrArg some (by kernel_rfl))
 t0:=Tryz.underlying0
 a0:=Tryz.isAgg0
 z0:=Tryz.sizeOf0
 v0:=Tryz.zeroValue0
 t2:=Tryz.underlying2
 a2:=Tryz.isAgg2
 z2:=Tryz.sizeOf2
 v2:=Tryz.zeroValue2
 t3:=Tryz.underlying3
 a3:=Tryz.isAgg3
 z3:=Tryz.sizeOf3
 v3:=Tryz.zeroValue3
 t4:=Tryz.underlying4
 a4:=Tryz.isAgg4
 z4:=Tryz.sizeOf4
 v4:=Tryz.zeroValue4
 t5:=Tryz.underlying5
 a5:=Tryz.isAgg5
 z5:=Tryz.sizeOf5
 v5:=Tryz.zeroValue5
 t9:=Tryz.underlying9
 a9:=Tryz.isAgg9
 z9:=Tryz.sizeOf9
 v9:=Tryz.zeroValue9
 t20:=Tryz.underlying20
 a20:=Tryz.isAgg20
 z20:=Tryz.sizeOf20
 v20:=Tryz.zeroValue20
 t37:=Tryz.underlying50
 a37:=Tryz.isAgg50
 z37:=Tryz.sizeOf50
 v37:=Tryz.zeroValue50
 t46:=Tryz.underlying103
 a46:=Tryz.isAgg103
 z46:=Tryz.sizeOf103
 v46:=Tryz.zeroValue103
 t51:=Tryz.underlying146
 a51:=Tryz.isAgg146
 z51:=Tryz.sizeOf146
 v51:=Tryz.zeroValue146
 t53:=Tryz.underlying149
 a53:=Tryz.isAgg149
 z53:=Tryz.sizeOf149
 v53:=Tryz.zeroValue149
 t171:=Tryz.underlying393
 a171:=Tryz.isAgg393
 z171:=Tryz.sizeOf393
 v171:=Tryz.zeroValue393
 t173:=Tryz.underlying395
 a173:=Tryz.isAgg395
 z173:=Tryz.sizeOf395
 v173:=Tryz.zeroValue395
 t212:=Tryz.underlying413
 a212:=Tryz.isAgg413
 z212:=Tryz.sizeOf413
 v212:=Tryz.zeroValue413
 t213:=Tryz.underlying414
 a213:=Tryz.isAgg414
 z213:=Tryz.sizeOf414
 t232:=Tryz.underlying424
 a232:=Tryz.isAgg424
 z232:=Tryz.sizeOf424
 v232:=Tryz.zeroValue424
 t233:=Tryz.underlying425
 a233:=Tryz.isAgg425
 z233:=Tryz.sizeOf425
 v233:=Tryz.zeroValue425
 g17:=by kernel_rfl
 g18:=by kernel_rfl
 g19:=by kernel_rfl
 i0:=by kernel_rfl
 i2:=by kernel_rfl
 i3:=by kernel_rfl
 i4:=by kernel_rfl
 i5:=by kernel_rfl
 i9:=by kernel_rfl
 i20:=by kernel_rfl
 i37:=by kernel_rfl
 i46:=by kernel_rfl
 i51:=by kernel_rfl
 i53:=by kernel_rfl
 i171:=by kernel_rfl
 i173:=by kernel_rfl
 i212:=by kernel_rfl
 i232:=by kernel_rfl
 i233:=by kernel_rfl
 m17:=by kernel_rfl
 m18:=by kernel_rfl
 m19:=by kernel_rfl}
open Go.RowKit Go.Sort Go.Lib in
theorem Tryz.strconv_Itoa(n:Int)(h0:-9223372036854775808<=n)(h1:n<=9223372036854775807)(w:World)(htab:Lib.TabIs Tryz.prog w "internal/strconv.uint64pow10" .u64 Lib.pow10Tab) :
  Calls Tryz.prog 185 #[.int .i64 n] w fun e w'=>e=.returned (.string ⟨(Lib.itoa n).toArray⟩)/\∃k os,w'=grow (w.drewN k) os:=Any.strconv_Itoa Tryz.laysM171 n h0 h1 w htab
def Tryz.laysC172_ren:Go.Shelf.Ren:=⟨fun|172=>260|244=>310|245=>311|247=>356|279=>357|280=>358|281=>359|282=>360|287=>379|316=>384|171=>185|205=>385|321=>395|322=>396|243=>263|246=>312|283=>361|284=>362|285=>363|286=>364|129=>157|317=>386|318=>387|319=>388|320=>389|337=>398|338=>399|n=>n,fun|9=>9|3=>3|75=>312|76=>313|4=>4|5=>5|167=>387|37=>50|0=>0|85=>388|2=>2|168=>390|53=>149|175=>374|46=>103|210=>410|127=>406|145=>422|143=>420|21=>21|171=>393|173=>395|212=>413|51=>146|20=>20|213=>414|232=>424|233=>425|80=>385|n=>n,fun|15=>1|16=>2|17=>3|18=>4|19=>5|n=>n⟩
theorem Tryz.laysC172:Go.Proofs.LaysC.n172 Tryz.prog Tryz.laysC172_ren:={
 mixed:=by kernel_rfl
 f129:=Tryz.func157.trans (congrArg some (by kernel_rfl))
 f171:=Tryz.func185.trans (congrArg some (by kernel_rfl))
 f172:=Tryz.func260.trans (congrArg some (by kernel_rfl))
 f205:=Tryz.func385.trans (congrArg some (by kernel_rfl))
 f243:=Tryz.func263.trans (congrArg some (by kernel_rfl))
 f244:=Tryz.func310.trans (congrArg some (by kernel_rfl))
 f245:=Tryz.func311.trans (congrArg some (by kernel_rfl))
 f246:=Tryz.func312.trans (congrArg some (by kernel_rfl))
 f247:=Tryz.func356.trans (congrArg some (by kernel_rfl))
 f279:=Tryz.func357.trans (congrArg some (by kernel_rfl))
 f280:=Tryz.func358.trans (congrArg some (by kernel_rfl))
 f281:=Tryz.func359.trans (congrArg some (by kernel_rfl))
 f282:=Tryz.func360.trans (congrArg some (by kernel_rfl))
 f283:=Tryz.func361.trans (congrArg some (by kernel_rfl))
 f284:=Tryz.func362.trans (congrArg some (by kernel_rfl))
 f285:=Tryz.func363.trans (congrArg some (by kernel_rfl))
 f286:=Tryz.func364.trans (congrArg some (by kernel_rfl))
 f287:=Tryz.func379.trans (congrArg some (by kernel_rfl))
 f316:=Tryz.func384.trans (congrArg some (by kernel_rfl))
 f317:=Tryz.func386.trans (congrArg some (by kernel_rfl))
 f318:=Tryz.func387.trans (congrArg some (by kernel_rfl))
 f319:=Tryz.func388.trans (congrArg some (by kernel_rfl))
 f320:=Tryz.func389.trans (congrArg some (by kernel_rfl))
 f321:=Tryz.func395.trans (congrArg some (by kernel_rfl))
 f322:=Tryz.func396.trans (congrArg some (by kernel_rfl))
 f337:=Tryz.func398.trans (congrArg some (by kernel_rfl))
 f338:=Tryz.func399.trans (congrArg some (by kernel_rfl))
 t0:=Tryz.underlying0
 a0:=Tryz.isAgg0
 z0:=Tryz.sizeOf0
 v0:=Tryz.zeroValue0
 t2:=Tryz.underlying2
 a2:=Tryz.isAgg2
 z2:=Tryz.sizeOf2
 v2:=Tryz.zeroValue2
 t3:=Tryz.underlying3
 a3:=Tryz.isAgg3
 z3:=Tryz.sizeOf3
 v3:=Tryz.zeroValue3
 t4:=Tryz.underlying4
 a4:=Tryz.isAgg4
 z4:=Tryz.sizeOf4
 v4:=Tryz.zeroValue4
 t5:=Tryz.underlying5
 a5:=Tryz.isAgg5
 z5:=Tryz.sizeOf5
 v5:=Tryz.zeroValue5
 t9:=Tryz.underlying9
 a9:=Tryz.isAgg9
 z9:=Tryz.sizeOf9
 v9:=Tryz.zeroValue9
 t20:=Tryz.underlying20
 a20:=Tryz.isAgg20
 z20:=Tryz.sizeOf20
 v20:=Tryz.zeroValue20
 t21:=Tryz.underlying21
 a21:=Tryz.isAgg21
 z21:=Tryz.sizeOf21
 v21:=Tryz.zeroValue21
 t37:=Tryz.underlying50
 a37:=Tryz.isAgg50
 z37:=Tryz.sizeOf50
 v37:=Tryz.zeroValue50
 t46:=Tryz.underlying103
 a46:=Tryz.isAgg103
 z46:=Tryz.sizeOf103
 v46:=Tryz.zeroValue103
 t51:=Tryz.underlying146
 a51:=Tryz.isAgg146
 z51:=Tryz.sizeOf146
 v51:=Tryz.zeroValue146
 t53:=Tryz.underlying149
 a53:=Tryz.isAgg149
 z53:=Tryz.sizeOf149
 v53:=Tryz.zeroValue149
 t75:=Tryz.underlying312
 a75:=Tryz.isAgg312
 z75:=Tryz.sizeOf312
 v75:=Tryz.zeroValue312
 t76:=Tryz.underlying313
 a76:=Tryz.isAgg313
 z76:=Tryz.sizeOf313
 v76:=Tryz.zeroValue313
 t85:=Tryz.underlying388
 a85:=Tryz.isAgg388
 z85:=Tryz.sizeOf388
 v85:=Tryz.zeroValue388
 t127:=Tryz.underlying406
 a127:=Tryz.isAgg406
 z127:=Tryz.sizeOf406
 v127:=Tryz.zeroValue406
 t143:=Tryz.underlying420
 a143:=Tryz.isAgg420
 z143:=Tryz.sizeOf420
 v143:=Tryz.zeroValue420
 t145:=Tryz.underlying422
 a145:=Tryz.isAgg422
 z145:=Tryz.sizeOf422
 v145:=Tryz.zeroValue422
 t167:=Tryz.underlying387
 a167:=Tryz.isAgg387
 z167:=Tryz.sizeOf387
 v167:=Tryz.zeroValue387
 t168:=Tryz.underlying390
 a168:=Tryz.isAgg390
 z168:=Tryz.sizeOf390
 v168:=Tryz.zeroValue390
 t171:=Tryz.underlying393
 a171:=Tryz.isAgg393
 z171:=Tryz.sizeOf393
 v171:=Tryz.zeroValue393
 t173:=Tryz.underlying395
 a173:=Tryz.isAgg395
 z173:=Tryz.sizeOf395
 v173:=Tryz.zeroValue395
 t175:=Tryz.underlying374
 a175:=Tryz.isAgg374
 z175:=Tryz.sizeOf374
 v175:=Tryz.zeroValue374
 t210:=Tryz.underlying410
 a210:=Tryz.isAgg410
 z210:=Tryz.sizeOf410
 v210:=Tryz.zeroValue410
 t212:=Tryz.underlying413
 a212:=Tryz.isAgg413
 z212:=Tryz.sizeOf413
 v212:=Tryz.zeroValue413
 t213:=Tryz.underlying414
 a213:=Tryz.isAgg414
 z213:=Tryz.sizeOf414
 t232:=Tryz.underlying424
 a232:=Tryz.isAgg424
 z232:=Tryz.sizeOf424
 v232:=Tryz.zeroValue424
 t233:=Tryz.underlying425
 a233:=Tryz.isAgg425
 z233:=Tryz.sizeOf425
 v233:=Tryz.zeroValue425
 g15:=by kernel_rfl
 g16:=by kernel_rfl
 g17:=by kernel_rfl
 g18:=by kernel_rfl
 g19:=by kernel_rfl
 t80:=Tryz.underlying385
 a80:=Tryz.isAgg385
 z80:=Tryz.sizeOf385
 v80:=Tryz.zeroValue385
 i0:=by kernel_rfl
 i2:=by kernel_rfl
 i3:=by kernel_rfl
 i4:=by kernel_rfl
 i5:=by kernel_rfl
 i9:=by kernel_rfl
 i20:=by kernel_rfl
 i21:=by kernel_rfl
 i37:=by kernel_rfl
 i46:=by kernel_rfl
 i51:=by kernel_rfl
 i53:=by kernel_rfl
 i75:=by kernel_rfl
 i76:=by kernel_rfl
 i80:=by kernel_rfl
 i85:=by kernel_rfl
 i127:=by kernel_rfl
 i143:=by kernel_rfl
 i145:=by kernel_rfl
 i167:=by kernel_rfl
 i168:=by kernel_rfl
 i171:=by kernel_rfl
 i173:=by kernel_rfl
 i175:=by kernel_rfl
 i210:=by kernel_rfl
 i212:=by kernel_rfl
 i232:=by kernel_rfl
 i233:=by kernel_rfl
 m15:=by kernel_rfl
 m16:=by kernel_rfl
 m17:=by kernel_rfl
 m18:=by kernel_rfl
 m19:=by kernel_rfl
 c0:=by kernel_rfl
 c2:=by kernel_rfl
 c3:=by kernel_rfl
 c4:=by kernel_rfl
 c5:=by kernel_rfl
 c9:=by kernel_rfl
 c20:=by kernel_rfl
 c21:=by kernel_rfl
 c37:=by kernel_rfl
 c46:=by kernel_rfl
 c51:=by kernel_rfl
 c53:=by kernel_rfl
 c75:=by kernel_rfl
 c76:=by kernel_rfl
 c80:=by kernel_rfl
 c85:=by kernel_rfl
 c127:=by kernel_rfl
 c143:=by kernel_rfl
 c145:=by kernel_rfl
 c167:=by kernel_rfl
 c168:=by kernel_rfl
 c171:=by kernel_rfl
 c173:=by kernel_rfl
 c175:=by kernel_rfl
 c210:=by kernel_rfl
 c212:=by kernel_rfl
 c213:=by kernel_rfl
 c232:=by kernel_rfl
 c233:=by kernel_rfl}
open Go.RowKit in
theorem Tryz.strconv_Atoi_ok(s:ByteArray)(hmax:s.size<=9223372036854775806)(v:Int)(h:Lib.atoiAll s.data.toList=.ok v)(w:World) :
  Calls Tryz.prog 260 #[.string s] w fun e w'=>e=.returned (.tuple #[.int .i64 v,.nilIface])/\(w'=w∨∃t,w'=Lib.bytesWorld w 5 t):=Any.strconv_Atoi_ok Tryz.laysC172 s hmax v h w
def Tryz.laysM145_ren:Go.Shelf.Ren:=⟨fun|145=>292|220=>342|219=>375|217=>282|225=>392|224=>393|267=>394|266=>336|314=>400|n=>n,fun|9=>9|4=>4|59=>337|3=>3|5=>5|46=>103|146=>147|51=>146|n=>n,fun|1=>0|n=>n⟩
theorem Tryz.laysM145:Go.Proofs.LaysM.n145 Tryz.prog Tryz.laysM145_ren:={
 mixed:=by kernel_rfl
 f145:=Tryz.func292.trans (congrArg some (by kernel_rfl))
 f217:=Tryz.func282.trans (congrArg some (by kernel_rfl))
 f219:=Tryz.func375.trans (congrArg some (by kernel_rfl))
 f220:=Tryz.func342.trans (congrArg some (by kernel_rfl))
 f224:=Tryz.func393.trans (congrArg some (by kernel_rfl))
 f225:=Tryz.func392.trans (congrArg some (by kernel_rfl))
 f266:=Tryz.func336.trans (congrArg some (by kernel_rfl))
 f267:=Tryz.func394.trans (congrArg some (by kernel_rfl))
 f314:=Tryz.func400.trans (congrArg some (by kernel_rfl))
 t3:=Tryz.underlying3
 a3:=Tryz.isAgg3
 z3:=Tryz.sizeOf3
 v3:=Tryz.zeroValue3
 t4:=Tryz.underlying4
 a4:=Tryz.isAgg4
 z4:=Tryz.sizeOf4
 v4:=Tryz.zeroValue4
 t5:=Tryz.underlying5
 a5:=Tryz.isAgg5
 z5:=Tryz.sizeOf5
 v5:=Tryz.zeroValue5
 t9:=Tryz.underlying9
 a9:=Tryz.isAgg9
 z9:=Tryz.sizeOf9
 v9:=Tryz.zeroValue9
 t46:=Tryz.underlying103
 a46:=Tryz.isAgg103
 z46:=Tryz.sizeOf103
 v46:=Tryz.zeroValue103
 t51:=Tryz.underlying146
 a51:=Tryz.isAgg146
 z51:=Tryz.sizeOf146
 v51:=Tryz.zeroValue146
 t59:=Tryz.underlying337
 a59:=Tryz.isAgg337
 z59:=Tryz.sizeOf337
 v59:=Tryz.zeroValue337
 t146:=Tryz.underlying147
 a146:=Tryz.isAgg147
 z146:=Tryz.sizeOf147
 v146:=Tryz.zeroValue147
 g1:=by kernel_rfl
 i3:=by kernel_rfl
 i4:=by kernel_rfl
 i5:=by kernel_rfl
 i9:=by kernel_rfl
 i46:=by kernel_rfl
 i51:=by kernel_rfl
 i59:=by kernel_rfl
 i146:=by kernel_rfl
 m1:=by kernel_rfl
 s1_3:=fun w h=>Go.Proofs.cell_of_shapedOpen_int (zero:=#[.int .i64 0]) (t:=3) h (of_decide_eq_true (by kernel_rfl)) (by kernel_rfl) rfl (by kernel_rfl) (by kernel_rfl) Tryz.underlying3}
open Go.RowKit Go.Lib in
theorem Tryz.strings_Cut_shaped(s sep:ByteArray)(w:World)(h:w.ShapedOpen Tryz.prog)(hs:s.size<4294967281) :
  Calls Tryz.prog 292 #[.string s,.string sep] w fun e w'=>e=.returned (.tuple #[.string ⟨(Lib.cut s.data.toList sep.data.toList).1.toArray⟩,.string ⟨(Lib.cut s.data.toList sep.data.toList).2.1.toArray⟩,.bool (Lib.cut s.data.toList sep.data.toList).2.2])/\∃n,w'=w.drewN n:=Any.strings_Cut_shaped Tryz.laysM145 s sep w h hs
def Tryz.lays99_ren:Go.Shelf.Ren:=⟨fun|99=>345|206=>378|n=>n,fun|9=>9|4=>4|3=>3|n=>n,fun|n=>n⟩
theorem Tryz.lays99:Go.Proofs.Lays.n99 Tryz.prog Tryz.lays99_ren:={
 mixed:=by kernel_rfl
 f99:=Tryz.func345.trans (congrArg some (by kernel_rfl))
 f206:=Tryz.func378.trans (congrArg some (by kernel_rfl))
 t3:=Tryz.underlying3
 a3:=Tryz.isAgg3
 z3:=Tryz.sizeOf3
 v3:=Tryz.zeroValue3
 t4:=Tryz.underlying4
 a4:=Tryz.isAgg4
 z4:=Tryz.sizeOf4
 v4:=Tryz.zeroValue4
 t9:=Tryz.underlying9
 a9:=Tryz.isAgg9
 z9:=Tryz.sizeOf9
 v9:=Tryz.zeroValue9}
open Go.RowKit Go.Lib in
theorem Tryz.strings_HasPrefix(s p:ByteArray)(w:World) :
  Calls Tryz.prog 345 #[.string s,.string p] w fun e w'=>e=.returned (.bool (Lib.hasPrefix s.data.toList p.data.toList))/\w'=w:=Any.strings_HasPrefix Tryz.lays99 s p w
def Tryz.lays101_ren:Go.Shelf.Ren:=⟨fun|101=>296|208=>346|206=>378|n=>n,fun|9=>9|4=>4|3=>3|n=>n,fun|n=>n⟩
theorem Tryz.lays101:Go.Proofs.Lays.n101 Tryz.prog Tryz.lays101_ren:={
 mixed:=by kernel_rfl
 f101:=Tryz.func296.trans (congrArg some (by kernel_rfl))
 f206:=Tryz.func378.trans (congrArg some (by kernel_rfl))
 f208:=Tryz.func346.trans (congrArg some (by kernel_rfl))
 t3:=Tryz.underlying3
 a3:=Tryz.isAgg3
 z3:=Tryz.sizeOf3
 v3:=Tryz.zeroValue3
 t4:=Tryz.underlying4
 a4:=Tryz.isAgg4
 z4:=Tryz.sizeOf4
 v4:=Tryz.zeroValue4
 t9:=Tryz.underlying9
 a9:=Tryz.isAgg9
 z9:=Tryz.sizeOf9
 v9:=Tryz.zeroValue9}
open Go.RowKit Go.Lib in
theorem Tryz.strings_TrimPrefix(s p:ByteArray)(w:World) :
  Calls Tryz.prog 296 #[.string s,.string p] w fun e w'=>e=.returned (.string ⟨(Lib.trimPrefix s.data.toList p.data.toList).toArray⟩)/\w'=w:=Any.strings_TrimPrefix Tryz.lays101 s p w
end Go.Proofs
namespace Go.Proofs.YtgnejnampofhoaaGreatDoor
open Go.RowKit
section
variable {P : Program} {ops : Array Oper} {Q : Exit → Act → World → Prop} {S : World → Prop} {T : List Nat}
def JE(P:Program)(ops:Array Oper)(Q:Exit→Act→World→Prop)(S:World→Prop)(T:List Nat):Nat→Array Bool→Act→World→Prop
 | 0,l,a,w=>Region.ready .any ops l = []/\Q .normal a w
 | f+1,l,a,w=>(Region.ready .any ops l = []→Q .normal a w)/\∀i∈Region.ready .any ops l,wpOp P ops Q i (fun a' w'=>(T.contains i=false→S w')/\JE P ops Q S T f (l.setIfInBounds i true) a' w') a w
theorem dW:∀(f:Nat) (l:Array Bool) (a:Act) (w:World),JE P ops Q S T f l a w→wpAny P .any ops Q f l a w
 | 0,_,_,_,h=>h
 | f+1,_,_,_,h=>⟨h.1,fun i hi=>wpOp_mono (fun a' w' h'=>dW f _ a' w' h'.2) (h.2 i hi)⟩
def NK(ops:Array Oper)(l:Array Bool):Prop:=∀j o,ops[j]?=some o→l.getD j false=true→∀e∈o.after,Region.binds .any e=true→l.getD e.on false=true
def Pr(ops:Array Oper):Nat→Nat→Nat→Bool
 | 0,_,_=>false
 | f+1,t,i=>match ops[t]? with
  | some o=>o.after.any fun e=>Region.binds .any e && (e.on == i || Pr ops f e.on i)
  | none=>false
theorem yF{l:Array Bool}(hc:NK ops l){i:Nat} : ∀(f t:Nat),Pr ops f t i=true→(∀o,ops[t]?=some o→∀e∈o.after,Region.binds .any e=true→l.getD e.on false=true)→l.getD i false=true
 | 0,_,h,_=>by cases h
 | f+1,t,h,hd=>by
  unfold Pr at h
  split at h
  ·rename_i o ho
   obtain⟨e,he,hb⟩:=Array.any_eq_true'.1 h;simp only [Bool.and_eq_true,Bool.or_eq_true,beq_iff_eq]at hb;have h1:=hd o ho e he hb.1
   rcases hb.2 with h2|h2
   ·rw [←h2];exact h1
   ·exact yF hc f e.on h2 (fun o' Zw e' he' hb'=>hc e.on o' Zw h1 e' he' hb')
  ·cases h
theorem NK.set{l:Array Bool}{i:Nat}(h:NK ops l)(hi:i∈Region.ready .any ops l):NK ops (l.setIfInBounds i true):=by
 obtain⟨_,oi,hoi,hall⟩:=mem_ready.1 hi;intro j o ho hl e he hb
 have key:l.getD e.on false=true:=by
  by_cases Bl:i=j
  ·subst Bl;obtain rfl:o=oi:=Option.some.inj (ho.symm.trans hoi);exact hall e he hb
  ·rw [getD_set_ne false Bl]at hl;exact h j o ho hl e he hb
 by_cases Rj:i=e.on
 ·subst Rj
  have hlt:e.on<l.size:=by
   rcases Nat.lt_or_ge e.on l.size with h'|h'
   ·exact h'
   ·simp [Array.getElem?_eq_none h']at key
  simp [hlt]
 ·rw [getD_set_ne false Rj];exact key
theorem Ahl{i:Nat}(hT:T.contains i=false)(hreach:∀t,T.contains t=true→∃f,Pr ops f t i=true){oi:Oper}{v:Value}(hi:ops[i]?=some oi)(tD:∀(j:Nat) (o:Oper) cs b,ops[j]?=some o→o.op≠.select cs b)
  (hQ:∀c a w,Q (.panic c) (a.put oi.dst v) w→Q (.panic c) a w):∀(f:Nat) (l:Array Bool) (a:Act) (w:World),NK ops l→
   (∀j oj,ops[j]?=some oj→j≠i→l.getD j true=false→(∀e∈oj.after,Region.binds .any e=true→e.on≠i)→oi.apart ops oj=true)→
   i∈Region.ready .any ops l→YieldsIf P ops S oi v a→S w→JE P ops Q S T f (l.setIfInBounds i true) (a.put oi.dst v) w→JE P ops Q S T (f+1) l a w:=by
 intro f
 induction f with
 | zero=>
  intro l a w inv _ hr hy hS H;refine⟨fun h=>(by rw [h]at hr;cases hr),fun j hj=>?_⟩;by_cases Gt:j=i
  ·subst Gt;exact hy.wpOp hi hS ⟨fun _=>hS,H⟩
  ·have:=ready_mono hj Gt;rw [H.1]at this
   cases this
 | succ f ih=>
  intro l a w inv qR hr hy hS H;have AQ:=(mem_ready.1 hr).1;refine⟨fun h=>(by rw [h]at hr;cases hr),fun j hj=>?_⟩;by_cases Gt:j=i
  ·subst Gt;exact hy.wpOp hi hS ⟨fun _=>hS,H⟩
  ·have h1:=H.2 j (ready_mono hj Gt);obtain⟨rG,oj,Mm,hall⟩:=mem_ready.1 hj
   have hjT:T.contains j=false:=by
    cases e:T.contains j
    ·rfl
    ·obtain⟨f',hf'⟩:=hreach j e;have:=yF inv f' j hf' (fun o ho=>by obtain rfl:oj=o:=Option.some.inj (Mm.symm.trans ho);exact hall);rw [getD_both AQ]at this
     cases this
   have Ab9:∀e∈oj.after,Region.binds .any e=true→e.on≠i:=fun e he hb heq=>by
    have h2:=hall e he hb;rw [heq,getD_both AQ]at h2
    cases h2
   have h2:=wpOp_putIf Mm (qR j oj Mm Gt rG Ab9) (fun cs b=>tD i oi cs b hi) (fun cs b=>tD j oj cs b Mm) hQ hy h1;refine wpOp_mono (fun a' w' h3=>⟨h3.2.1,ih (l.setIfInBounds j true) a' w' (inv.set hj) (fun k ok hk Mg rL hno=>qR k ok hk Mg ?_ hno) (ready_mono hr (Ne.symm Gt)) h3.1 (h3.2.1 hjT) ?_⟩) h2
   ·by_cases hjk:j=k
    ·subst hjk;exact rG
    ·rw [getD_set_ne true hjk]at rL;exact rL
   ·rw [Array.setIfInBounds_comm _ _ Gt];exact h3.2.2
def headB(ops:Array Oper)(T:List Nat)(i:Nat)(l:Array Bool):Bool:=
 Region.noSelect ops && !T.contains i&&T.all (fun t=>Pr ops ops.size t i)
  && (List.range ops.size).all (fun j=>!l.getD j false||match ops[j]? with|some o=>o.after.all (fun e=>!Region.binds .any e||l.getD e.on false)|none=>true)
theorem Aba{l:Array Bool}{i:Nat}(h:headB ops T i l=true):NK ops l/\Region.noSelect ops=true/\T.contains i=false/\∀t,T.contains t=true→∃f,Pr ops f t i=true:=by
 unfold headB at h;simp only [Bool.and_eq_true,Bool.not_eq_true']at h;obtain⟨⟨⟨h1,h2⟩,h3⟩,h4⟩:=h;refine⟨fun j o ho hl e he hb=>?_,h1,h2,fun t ht=>⟨_,List.all_eq_true.1 h3 t (by simpa using ht)⟩⟩;have h7:=List.all_eq_true.1 h4 j (List.mem_range.2 (Array.getElem?_eq_some_iff.1 ho).1);rw [hl,ho]at h7;simp only [Bool.not_true,Bool.false_or]at h7;have h9:=Array.all_eq_true'.1 h7 e he;rw [hb]at h9
 simpa using h9
theorem Cq{l0:List Oper}{i:Nat}{oi:Oper}{v:Value}{f:Nat}{l:Array Bool}{a:Act}{w:World}(hi:l0[i]?=some oi)(hb:(headB l0.toArray T i l&&Region.free .any l0.toArray l i&&(Region.ready .any l0.toArray l).contains i)=true)
  (hQ:∀c a w,Q (.panic c) (a.put oi.dst v) w→Q (.panic c) a w) (hS:S w) (hw:Region.wanted oi (yielded l0.toArray a.tmps)=true) (hy:∀w,S w→(execOp a.eval oi).run P w=.ok (.value v) w)
  (h:JE P l0.toArray Q S T f (l.setIfInBounds i true) (a.put oi.dst v) w):JE P l0.toArray Q S T (f+1) l a w:=by
 simp only [Bool.and_eq_true]at hb;obtain⟨⟨h1,h3⟩,h4⟩:=hb;obtain⟨inv,k1,k2,k3⟩:=Aba h1;have hi':l0.toArray[i]?=some oi:=(by simpa using hi);exact Ahl k2 k3 hi' (Region.noSelect_spec k1) hQ f l a w inv (Region.free_spec hi' h3) (by simpa using h4) (.inl ⟨hw,hy⟩) hS h
theorem Ft{l0:List Oper}{i:Nat}{oi:Oper}{f:Nat}{l:Array Bool}{a:Act}{w:World}(hi:l0[i]?=some oi)(hr:Region.ready .any l0.toArray l = [i])
  (h:∀K:Act→World→Prop,Hid (∀a w,(T.contains i=false→S w)→((T.contains i=false→S w)→JE P l0.toArray Q S T f (l.setIfInBounds i true) a w)→K a w)→if Region.wanted oi (yielded l0.toArray a.tmps)=true then Oper.wp P oi a w K Q else K (a.put oi.dst undef) w):JE P l0.toArray Q S T (f+1) l a w:=by
 refine⟨fun h0=>(by rw [hr]at h0;cases h0),fun j hj=>?_⟩;rw [hr]at hj;obtain rfl:j=i:=(by simpa using hj);exact wpOp_step (by simpa using hi) (fun K hK=>h K (Lib.hid fun a w h1 h2=>hK a w ⟨h1,h2 h1⟩))
theorem lG{l:Array Bool}{a:Act}{w:World}(hr:Region.ready .any ops l = [])(h:Q .normal a w):∀f,JE P ops Q S T f l a w
 | 0=>⟨hr,h⟩
 | _+1=>⟨fun _=>h,by rw [hr];simp⟩
theorem Ahs{id:Nat}{a:Act}{w:World}(hm:P.follows .mixedOrders=true)(hS:S w.drew)(h:S w.drew→JE P ops Q S T ops.size (Array.replicate ops.size false) a w.drew):(Code.region id ops true).wp P Q a w:=
 wp_region_any hm (dW _ _ _ _ (h hS))
end
end Go.Proofs.YtgnejnampofhoaaGreatDoor
