/- W03. -/
import Derived.Shelf.Small.Bits
import Derived.Shelf.Small.Strs
import Derived.Shelf.Small.Wraps
import Derived.Shelf.Strconv.Itoa3
import Derived.Shelf.Strconv.ErrVar
import Derived.Shelf.Strconv.ErrVarAll
import Derived.Shelf.Strconv.ParseInt10All
import Derived.Shelf.Pu.ErrVarParseUint
import Derived.Shelf.Strings.Shaped
import Derived.Shelf.Bits.Mul64
import Derived.Shelf.Strings.BuilderCap
import Derived.Test.YtnfedbopbcegjaaGreatDoorW02
namespace Go.Proofs
open Go.Shelf
def Tryz.lays106_ren:Go.Shelf.Ren:=⟨fun|106=>118|213=>191|265=>238|n=>n,fun|9=>9|3=>3|n=>n,fun|n=>n⟩
theorem Tryz.lays106:Go.Proofs.Lays.n106 Tryz.prog Tryz.lays106_ren:={
 mixed:=by kernel_rfl
 f106:=Tryz.func118.trans (congrArg some (by kernel_rfl))
 f213:=Tryz.func191.trans (congrArg some (by kernel_rfl))
 f265:=Tryz.func238.trans (congrArg some (by kernel_rfl))
 t3:=Tryz.underlying3
 a3:=Tryz.isAgg3
 z3:=Tryz.sizeOf3
 v3:=Tryz.zeroValue3
 t9:=Tryz.underlying9
 a9:=Tryz.isAgg9
 z9:=Tryz.sizeOf9
 v9:=Tryz.zeroValue9}
open Go.RowKit in
theorem Tryz.strings_Compare(a b:ByteArray)(w:World) :
  Calls Tryz.prog 118 #[.string a,.string b] w fun e w'=>e=.returned (.int .i64 (Lib.compareBytes a.data.toList b.data.toList))/\w'=w:=Any.strings_Compare Tryz.lays106 a b w
def Tryz.lays103_ren:Go.Shelf.Ren:=⟨fun|103=>116|210=>189|206=>227|n=>n,fun|9=>9|4=>4|24=>192|3=>3|n=>n,fun|n=>n⟩
theorem Tryz.lays103:Go.Proofs.Lays.n103 Tryz.prog Tryz.lays103_ren:={
 mixed:=by kernel_rfl
 f103:=Tryz.func116.trans (congrArg some (by kernel_rfl))
 f206:=Tryz.func227.trans (congrArg some (by kernel_rfl))
 f210:=Tryz.func189.trans (congrArg some (by kernel_rfl))
 t3:=Tryz.underlying3
 a3:=Tryz.isAgg3
 z3:=Tryz.sizeOf3
 v3:=Tryz.zeroValue3
 t4:=Tryz.underlying4
 a4:=Tryz.isAgg4
 z4:=Tryz.sizeOf4
 v4:=Tryz.zeroValue4
 t9:=Tryz.underlying9
 a9:=Tryz.isAgg9
 z9:=Tryz.sizeOf9
 v9:=Tryz.zeroValue9
 t24:=Tryz.underlying192
 a24:=Tryz.isAgg192
 z24:=Tryz.sizeOf192
 v24:=Tryz.zeroValue192}
open Go.RowKit in
theorem Tryz.strings_CutPrefix(s p:ByteArray)(w:World) :
  Calls Tryz.prog 116 #[.string s,.string p] w fun e w'=>e=.returned (.tuple #[.string ⟨(Lib.trimPrefix s.data.toList p.data.toList).toArray⟩,.bool (Lib.hasPrefix s.data.toList p.data.toList)])/\w'=w:=Any.strings_CutPrefix Tryz.lays103 s p w
def Tryz.laysM171_ren:Go.Shelf.Ren:=⟨fun|171=>102|243=>178|246=>226|283=>251|284=>252|285=>253|286=>254|129=>176|317=>283|318=>284|319=>285|320=>286|337=>296|338=>297|n=>n,fun|3=>3|9=>9|2=>2|4=>4|171=>326|0=>0|53=>261|37=>37|5=>5|173=>328|212=>353|51=>259|20=>20|213=>354|46=>173|232=>369|233=>370|n=>n,fun|17=>1|18=>4|19=>5|n=>n⟩
theorem Tryz.laysM171:Go.Proofs.LaysM.n171 Tryz.prog Tryz.laysM171_ren:={
 mixed:=by kernel_rfl
 f129:=Tryz.func176.trans (congrArg some (by kernel_rfl))
 f171:=Tryz.func102.trans (congrArg some (by kernel_rfl))
 f243:=Tryz.func178.trans (congrArg some (by kernel_rfl))
 f246:=Tryz.func226.trans (congrArg some (by kernel_rfl))
 f283:=Tryz.func251.trans (congrArg some (by kernel_rfl))
 f284:=Tryz.func252.trans (congrArg some (by kernel_rfl))
 f285:=Tryz.func253.trans (congrArg some (by kernel_rfl))
 f286:=Tryz.func254.trans (congrArg some (by kernel_rfl))
 f317:=Tryz.func283.trans (congrArg some (by kernel_rfl))
 f318:=Tryz.func284.trans (congrArg some (by kernel_rfl))
 f319:=Tryz.func285.trans (congrArg some (by kernel_rfl))
 f320:=Tryz.func286.trans (congrArg some (by kernel_rfl))
 f337:=Tryz.func296.trans (congrArg some (by kernel_rfl))
 f338:=Tryz.func297.trans (congrArg some (by kernel_rfl))
 t0:=Tryz.underlying0
 a0:=Tryz.isAgg0
 z0:=Tryz.sizeOf0
 v0:=Tryz.zeroValue0
 t2:=Tryz.underlying2
 a2:=Tryz.isAgg2
 z2:=Tryz.sizeOf2
 v2:=Tryz.zeroValue2
 t3:=Tryz.underlying3
 a3:=Tryz.isAgg3
 z3:=Tryz.sizeOf3
 v3:=Tryz.zeroValue3
 t4:=Tryz.underlying4
 a4:=Tryz.isAgg4
 z4:=Tryz.sizeOf4
 v4:=Tryz.zeroValue4
 t5:=Tryz.underlying5
 a5:=Tryz.isAgg5
 z5:=Tryz.sizeOf5
 v5:=Tryz.zeroValue5
 t9:=Tryz.underlying9
 a9:=Tryz.isAgg9
 z9:=Tryz.sizeOf9
 v9:=Tryz.zeroValue9
 t20:=Tryz.underlying20
 a20:=Tryz.isAgg20
 z20:=Tryz.sizeOf20
 v20:=Tryz.zeroValue20
 t37:=Tryz.underlying37
 a37:=Tryz.isAgg37
 z37:=Tryz.sizeOf37
 v37:=Tryz.zeroValue37
 t46:=Tryz.underlying173
 a46:=Tryz.isAgg173
 z46:=Tryz.sizeOf173
 v46:=Tryz.zeroValue173
 t51:=Tryz.underlying259
 a51:=Tryz.isAgg259
 z51:=Tryz.sizeOf259
 v51:=Tryz.zeroValue259
 t53:=Tryz.underlying261
 a53:=Tryz.isAgg261
 z53:=Tryz.sizeOf261
 v53:=Tryz.zeroValue261
 t171:=Tryz.underlying326
 a171:=Tryz.isAgg326
 z171:=Tryz.sizeOf326
 v171:=Tryz.zeroValue326
 t173:=Tryz.underlying328
 a173:=Tryz.isAgg328
 z173:=Tryz.sizeOf328
 v173:=Tryz.zeroValue328
 t212:=Tryz.underlying353
 a212:=Tryz.isAgg353
 z212:=Tryz.sizeOf353
 v212:=Tryz.zeroValue353
 t213:=Tryz.underlying354
 a213:=Tryz.isAgg354
 z213:=Tryz.sizeOf354
 t232:=Tryz.underlying369
 a232:=Tryz.isAgg369
 z232:=Tryz.sizeOf369
 v232:=Tryz.zeroValue369
 t233:=Tryz.underlying370
 a233:=Tryz.isAgg370
 z233:=Tryz.sizeOf370
 v233:=Tryz.zeroValue370
 g17:=by kernel_rfl
 g18:=by kernel_rfl
 g19:=by kernel_rfl
 i0:=by kernel_rfl
 i2:=by kernel_rfl
 i3:=by kernel_rfl
 i4:=by kernel_rfl
 i5:=by kernel_rfl
 i9:=by kernel_rfl
 i20:=by kernel_rfl
 i37:=by kernel_rfl
 i46:=by kernel_rfl
 i51:=by kernel_rfl
 i53:=by kernel_rfl
 i171:=by kernel_rfl
 i173:=by kernel_rfl
 i212:=by kernel_rfl
 i232:=by kernel_rfl
 i233:=by kernel_rfl
 m17:=by kernel_rfl
 m18:=by kernel_rfl
 m19:=by kernel_rfl}
open Go.RowKit Go.Sort Go.Lib in
theorem Tryz.strconv_Itoa(n:Int)(h0:-9223372036854775808<=n)(h1:n<=9223372036854775807)(w:World)(htab:Lib.TabIs Tryz.prog w "internal/strconv.uint64pow10" .u64 Lib.pow10Tab) :
  Calls Tryz.prog 102 #[.int .i64 n] w fun e w'=>e=.returned (.string ⟨(Lib.itoa n).toArray⟩)/\∃k os,w'=grow (w.drewN k) os:=Any.strconv_Itoa Tryz.laysM171 n h0 h1 w htab
def Tryz.laysC172_ren:Go.Shelf.Ren:=⟨fun|172=>180|244=>228|245=>229|247=>255|279=>256|280=>257|281=>258|282=>259|287=>230|316=>287|171=>102|205=>288|321=>260|322=>261|243=>178|246=>226|283=>251|284=>252|285=>253|286=>254|129=>176|317=>283|318=>284|319=>285|320=>286|337=>296|338=>297|n=>n,fun|9=>9|3=>3|75=>265|76=>266|4=>4|5=>5|167=>330|37=>37|0=>0|85=>331|2=>2|168=>333|53=>261|175=>268|46=>173|210=>357|127=>314|145=>366|143=>364|21=>21|171=>326|173=>328|212=>353|51=>259|20=>20|213=>354|232=>369|233=>370|80=>279|n=>n,fun|15=>2|16=>3|17=>1|18=>4|19=>5|n=>n⟩
theorem Tryz.laysC172:Go.Proofs.LaysC.n172 Tryz.prog Tryz.laysC172_ren:={
 mixed:=by kernel_rfl
 f129:=Tryz.func176.trans (congrArg some (by kernel_rfl))
 f171:=Tryz.func102.trans (congrArg some (by kernel_rfl))
 f172:=Tryz.func180.trans (congrArg some (by kernel_rfl))
 f205:=Tryz.func288.trans (congrArg some (by kernel_rfl))
 f243:=Tryz.func178.trans (congrArg some (by kernel_rfl))
 f244:=Tryz.func228.trans (congrArg some (by kernel_rfl))
 f245:=Tryz.func229.trans (congrArg some (by kernel_rfl))
 f246:=Tryz.func226.trans (congrArg some (by kernel_rfl))
 f247:=Tryz.func255.trans (congrArg some (by kernel_rfl))
 f279:=Tryz.func256.trans (congrArg some (by kernel_rfl))
 f280:=Tryz.func257.trans (congrArg some (by kernel_rfl))
 f281:=Tryz.func258.trans (congrArg some (by kernel_rfl))
 f282:=Tryz.func259.trans (congrArg some (by kernel_rfl))
 f283:=Tryz.func251.trans (congrArg some (by kernel_rfl))
 f284:=Tryz.func252.trans (congrArg some (by kernel_rfl))
 f285:=Tryz.func253.trans (congrArg some (by kernel_rfl))
 f286:=Tryz.func254.trans (congrArg some (by kernel_rfl))
 f287:=Tryz.func230.trans (congrArg some (by kernel_rfl))
 f316:=Tryz.func287.trans (congrArg some (by kernel_rfl))
 f317:=Tryz.func283.trans (congrArg some (by kernel_rfl))
 f318:=Tryz.func284.trans (congrArg some (by kernel_rfl))
 f319:=Tryz.func285.trans (congrArg some (by kernel_rfl))
 f320:=Tryz.func286.trans (congrArg some (by kernel_rfl))
 f321:=Tryz.func260.trans (congrArg some (by kernel_rfl))
 f322:=Tryz.func261.trans (congrArg some (by kernel_rfl))
 f337:=Tryz.func296.trans (congrArg some (by kernel_rfl))
 f338:=Tryz.func297.trans (congrArg some (by kernel_rfl))
 t0:=Tryz.underlying0
 a0:=Tryz.isAgg0
 z0:=Tryz.sizeOf0
 v0:=Tryz.zeroValue0
 t2:=Tryz.underlying2
 a2:=Tryz.isAgg2
 z2:=Tryz.sizeOf2
 v2:=Tryz.zeroValue2
 t3:=Tryz.underlying3
 a3:=Tryz.isAgg3
 z3:=Tryz.sizeOf3
 v3:=Tryz.zeroValue3
 t4:=Tryz.underlying4
 a4:=Tryz.isAgg4
 z4:=Tryz.sizeOf4
 v4:=Tryz.zeroValue4
 t5:=Tryz.underlying5
 a5:=Tryz.isAgg5
 z5:=Tryz.sizeOf5
 v5:=Tryz.zeroValue5
 t9:=Tryz.underlying9
 a9:=Tryz.isAgg9
 z9:=Tryz.sizeOf9
 v9:=Tryz.zeroValue9
 t20:=Tryz.underlying20
 a20:=Tryz.isAgg20
 z20:=Tryz.sizeOf20
 v20:=Tryz.zeroValue20
 t21:=Tryz.underlying21
 a21:=Tryz.isAgg21
 z21:=Tryz.sizeOf21
 v21:=Tryz.zeroValue21
 t37:=Tryz.underlying37
 a37:=Tryz.isAgg37
 z37:=Tryz.sizeOf37
 v37:=Tryz.zeroValue37
 t46:=Tryz.underlying173
 a46:=Tryz.isAgg173
 z46:=Tryz.sizeOf173
 v46:=Tryz.zeroValue173
 t51:=Tryz.underlying259
 a51:=Tryz.isAgg259
 z51:=Tryz.sizeOf259
 v51:=Tryz.zeroValue259
 t53:=Tryz.underlying261
 a53:=Tryz.isAgg261
 z53:=Tryz.sizeOf261
 v53:=Tryz.zeroValue261
 t75:=Tryz.underlying265
 a75:=Tryz.isAgg265
 z75:=Tryz.sizeOf265
 v75:=Tryz.zeroValue265
 t76:=Tryz.underlying266
 a76:=Tryz.isAgg266
 z76:=Tryz.sizeOf266
 v76:=Tryz.zeroValue266
 t85:=Tryz.underlying331
 a85:=Tryz.isAgg331
 z85:=Tryz.sizeOf331
 v85:=Tryz.zeroValue331
 t127:=Tryz.underlying314
 a127:=Tryz.isAgg314
 z127:=Tryz.sizeOf314
 v127:=Tryz.zeroValue314
 t143:=Tryz.underlying364
 a143:=Tryz.isAgg364
 z143:=Tryz.sizeOf364
 v143:=Tryz.zeroValue364
 t145:=Tryz.underlying366
 a145:=Tryz.isAgg366
 z145:=Tryz.sizeOf366
 v145:=Tryz.zeroValue366
 t167:=Tryz.underlying330
 a167:=Tryz.isAgg330
 z167:=Tryz.sizeOf330
 v167:=Tryz.zeroValue330
 t168:=Tryz.underlying333
 a168:=Tryz.isAgg333
 z168:=Tryz.sizeOf333
 v168:=Tryz.zeroValue333
 t171:=Tryz.underlying326
 a171:=Tryz.isAgg326
 z171:=Tryz.sizeOf326
 v171:=Tryz.zeroValue326
 t173:=Tryz.underlying328
 a173:=Tryz.isAgg328
 z173:=Tryz.sizeOf328
 v173:=Tryz.zeroValue328
 t175:=Tryz.underlying268
 a175:=Tryz.isAgg268
 z175:=Tryz.sizeOf268
 v175:=Tryz.zeroValue268
 t210:=Tryz.underlying357
 a210:=Tryz.isAgg357
 z210:=Tryz.sizeOf357
 v210:=Tryz.zeroValue357
 t212:=Tryz.underlying353
 a212:=Tryz.isAgg353
 z212:=Tryz.sizeOf353
 v212:=Tryz.zeroValue353
 t213:=Tryz.underlying354
 a213:=Tryz.isAgg354
 z213:=Tryz.sizeOf354
 t232:=Tryz.underlying369
 a232:=Tryz.isAgg369
 z232:=Tryz.sizeOf369
 v232:=Tryz.zeroValue369
 t233:=Tryz.underlying370
 a233:=Tryz.isAgg370
 z233:=Tryz.sizeOf370
 v233:=Tryz.zeroValue370
 g15:=by kernel_rfl
 g16:=by kernel_rfl
 g17:=by kernel_rfl
 g18:=by kernel_rfl
 g19:=by kernel_rfl
 t80:=Tryz.underlying279
 a80:=Tryz.isAgg279
 z80:=Tryz.sizeOf279
 v80:=Tryz.zeroValue279
 i0:=by kernel_rfl
 i2:=by kernel_rfl
 i3:=by kernel_rfl
 i4:=by kernel_rfl
 i5:=by kernel_rfl
 i9:=by kernel_rfl
 i20:=by kernel_rfl
 i21:=by kernel_rfl
 i37:=by kernel_rfl
 i46:=by kernel_rfl
 i51:=by kernel_rfl
 i53:=by kernel_rfl
 i75:=by kernel_rfl
 i76:=by kernel_rfl
 i80:=by kernel_rfl
 i85:=by kernel_rfl
 i127:=by kernel_rfl
 i143:=by kernel_rfl
 i145:=by kernel_rfl
 i167:=by kernel_rfl
 i168:=by kernel_rfl
 i171:=by kernel_rfl
 i173:=by kernel_rfl
 i175:=by kernel_rfl
 i210:=by kernel_rfl
 i212:=by kernel_rfl
 i232:=by kernel_rfl
 i233:=by kernel_rfl
 m15:=by kernel_rfl
 m16:=by kernel_rfl
 m17:=by kernel_rfl
 m18:=by kernel_rfl
 m19:=by kernel_rfl
 c0:=by kernel_rfl
 c2:=by kernel_rfl
 c3:=by kernel_rfl
 c4:=by kernel_rfl
 c5:=by kernel_rfl
 c9:=by kernel_rfl
 c20:=by kernel_rfl
 c21:=by kernel_rfl
 c37:=by kernel_rfl
 c46:=by kernel_rfl
 c51:=by kernel_rfl
 c53:=by kernel_rfl
 c75:=by kernel_rfl
 c76:=by kernel_rfl
 c80:=by kernel_rfl
 c85:=by kernel_rfl
 c127:=by kernel_rfl
 c143:=by kernel_rfl
 c145:=by kernel_rfl
 c167:=by kernel_rfl
 c168:=by kernel_rfl
 c171:=by kernel_rfl
 c173:=by kernel_rfl
 c175:=by kernel_rfl
 c210:=by kernel_rfl
 c212:=by kernel_rfl
 c213:=by kernel_rfl
 c232:=by kernel_rfl
 c233:=by kernel_rfl}
open Go.RowKit in
theorem Tryz.strconv_Atoi_ok(s:ByteArray)(hmax:s.size<=9223372036854775806)(v:Int)(h:Lib.atoiAll s.data.toList=.ok v)(w:World) :
  Calls Tryz.prog 180 #[.string s] w fun e w'=>e=.returned (.tuple #[.int .i64 v,.nilIface])/\(w'=w∨∃t,w'=Lib.bytesWorld w 5 t):=Any.strconv_Atoi_ok Tryz.laysC172 s hmax v h w
def Tryz.laysM145_ren:Go.Shelf.Ren:=⟨fun|145=>66|220=>115|219=>188|217=>234|225=>235|224=>236|267=>237|266=>263|314=>264|n=>n,fun|9=>9|4=>4|59=>134|3=>3|5=>5|46=>173|146=>307|51=>259|n=>n,fun|1=>0|n=>n⟩
theorem Tryz.laysM145:Go.Proofs.LaysM.n145 Tryz.prog Tryz.laysM145_ren:={
 mixed:=by kernel_rfl
 f145:=Tryz.func66.trans (congrArg some (by kernel_rfl))
 f217:=Tryz.func234.trans (congrArg some (by kernel_rfl))
 f219:=Tryz.func188.trans (congrArg some (by kernel_rfl))
 f220:=Tryz.func115.trans (congrArg some (by kernel_rfl))
 f224:=Tryz.func236.trans (congrArg some (by kernel_rfl))
 f225:=Tryz.func235.trans (congrArg some (by kernel_rfl))
 f266:=Tryz.func263.trans (congrArg some (by kernel_rfl))
 f267:=Tryz.func237.trans (congrArg some (by kernel_rfl))
 f314:=Tryz.func264.trans (congrArg some (by kernel_rfl))
 t3:=Tryz.underlying3
 a3:=Tryz.isAgg3
 z3:=Tryz.sizeOf3
 v3:=Tryz.zeroValue3
 t4:=Tryz.underlying4
 a4:=Tryz.isAgg4
 z4:=Tryz.sizeOf4
 v4:=Tryz.zeroValue4
 t5:=Tryz.underlying5
 a5:=Tryz.isAgg5
 z5:=Tryz.sizeOf5
 v5:=Tryz.zeroValue5
 t9:=Tryz.underlying9
 a9:=Tryz.isAgg9
 z9:=Tryz.sizeOf9
 v9:=Tryz.zeroValue9
 t46:=Tryz.underlying173
 a46:=Tryz.isAgg173
 z46:=Tryz.sizeOf173
 v46:=Tryz.zeroValue173
 t51:=Tryz.underlying259
 a51:=Tryz.isAgg259
 z51:=Tryz.sizeOf259
 v51:=Tryz.zeroValue259
 t59:=Tryz.underlying134
 a59:=Tryz.isAgg134
 z59:=Tryz.sizeOf134
 v59:=Tryz.zeroValue134
 t146:=Tryz.underlying307
 a146:=Tryz.isAgg307
 z146:=Tryz.sizeOf307
 v146:=Tryz.zeroValue307
 g1:=by kernel_rfl
 i3:=by kernel_rfl
 i4:=by kernel_rfl
 i5:=by kernel_rfl
 i9:=by kernel_rfl
 i46:=by kernel_rfl
 i51:=by kernel_rfl
 i59:=by kernel_rfl
 i146:=by kernel_rfl
 m1:=by kernel_rfl
 s1_3:=fun w h=>Go.Proofs.cell_of_shapedOpen_int (zero:=#[.int .i64 0]) (t:=3) h (of_decide_eq_true (by kernel_rfl)) (by kernel_rfl) rfl (by kernel_rfl) (by kernel_rfl) Tryz.underlying3}
open Go.RowKit Go.Lib in
theorem Tryz.strings_Cut_shaped(s sep:ByteArray)(w:World)(h:w.ShapedOpen Tryz.prog)(hs:s.size<4294967281) :
  Calls Tryz.prog 66 #[.string s,.string sep] w fun e w'=>e=.returned (.tuple #[.string ⟨(Lib.cut s.data.toList sep.data.toList).1.toArray⟩,.string ⟨(Lib.cut s.data.toList sep.data.toList).2.1.toArray⟩,.bool (Lib.cut s.data.toList sep.data.toList).2.2])/\∃n,w'=w.drewN n:=Any.strings_Cut_shaped Tryz.laysM145 s sep w h hs
def Tryz.lays99_ren:Go.Shelf.Ren:=⟨fun|99=>179|206=>227|n=>n,fun|9=>9|4=>4|3=>3|n=>n,fun|n=>n⟩
theorem Tryz.lays99:Go.Proofs.Lays.n99 Tryz.prog Tryz.lays99_ren:={
 mixed:=by kernel_rfl
 f99:=Tryz.func179.trans (congrArg some (by kernel_rfl))
 f206:=Tryz.func227.trans (congrArg some (by kernel_rfl))
 t3:=Tryz.underlying3
 a3:=Tryz.isAgg3
 z3:=Tryz.sizeOf3
 v3:=Tryz.zeroValue3
 t4:=Tryz.underlying4
 a4:=Tryz.isAgg4
 z4:=Tryz.sizeOf4
 v4:=Tryz.zeroValue4
 t9:=Tryz.underlying9
 a9:=Tryz.isAgg9
 z9:=Tryz.sizeOf9
 v9:=Tryz.zeroValue9}
open Go.RowKit Go.Lib in
theorem Tryz.strings_HasPrefix(s p:ByteArray)(w:World) :
  Calls Tryz.prog 179 #[.string s,.string p] w fun e w'=>e=.returned (.bool (Lib.hasPrefix s.data.toList p.data.toList))/\w'=w:=Any.strings_HasPrefix Tryz.lays99 s p w
def Tryz.lays101_ren:Go.Shelf.Ren:=⟨fun|101=>117|208=>190|206=>227|n=>n,fun|9=>9|4=>4|3=>3|n=>n,fun|n=>n⟩
theorem Tryz.lays101:Go.Proofs.Lays.n101 Tryz.prog Tryz.lays101_ren:={
 mixed:=by kernel_rfl
 f101:=Tryz.func117.trans (congrArg some (by kernel_rfl))
 f206:=Tryz.func227.trans (congrArg some (by kernel_rfl))
 f208:=Tryz.func190.trans (congrArg some (by kernel_rfl))
 t3:=Tryz.underlying3
 a3:=Tryz.isAgg3
 z3:=Tryz.sizeOf3
 v3:=Tryz.zeroValue3
 t4:=Tryz.underlying4
 a4:=Tryz.isAgg4
 z4:=Tryz.sizeOf4
 v4:=Tryz.zeroValue4
 t9:=Tryz.underlying9
 a9:=Tryz.isAgg9
 z9:=Tryz.sizeOf9
 v9:=Tryz.zeroValue9}
open Go.RowKit Go.Lib in
theorem Tryz.strings_TrimPrefix(s p:ByteArray)(w:World) :
  Calls Tryz.prog 117 #[.string s,.string p] w fun e w'=>e=.returned (.string ⟨(Lib.trimPrefix s.data.toList p.data.toList).toArray⟩)/\w'=w:=Any.strings_TrimPrefix Tryz.lays101 s p w
end Go.Proofs
namespace Kl
open Go
def Jy(l:Bs):Prop:=∃z:Int,l=I z/\(D z.natAbs).length<=200
structure Vk(t:Bs)(mn:Bool):Prop where
 ne:t≠[]
 len:t.length<=200
 zero:∀m,t=48::m→m = []/\mn=false
 all:Cy t
theorem Adz(l:Bs):([45].isPrefixOf l=true/\∃m,l=45::m/\Lib.trimPrefix l [45]=m)∨([45].isPrefixOf l=false/\Lib.trimPrefix l [45]=l):=by
 match l with
 | []=>exact .inr ⟨rfl,rfl⟩
 | c::m=>
  by_cases h:c=45
  ·subst h;exact .inl ⟨by simp [List.isPrefixOf],m,rfl,by unfold Lib.trimPrefix Lib.hasPrefix;simp [List.isPrefixOf]⟩
  ·have:[45].isPrefixOf (c::m)=false:=by simp only [List.isPrefixOf,Bool.and_true];rw [beq_eq_false_iff_ne];exact fun e=>h e.symm
   exact .inr ⟨this,by unfold Lib.trimPrefix Lib.hasPrefix;rw [this];rfl⟩
theorem gV(l:Bs):Jy l↔Vk (Lib.trimPrefix l [45]) ([45].isPrefixOf l):=by
 rcases Adz l with⟨h1,m,rfl,h2⟩|⟨h1,h2⟩
 ·rw [h1,h2];constructor
  ·rintro⟨z,e,hl⟩
   rcases Ds z with⟨n,rfl,e2⟩|⟨n,hn,rfl,e2⟩
   ·rw [e2]at e;exact absurd e.symm (Vm n m)
   ·rw [e2]at e;obtain rfl:m=D n:=(by simpa using e);have hc:=gG n;refine⟨hc.ne,by simpa using hl,fun q e3=>?_,hc.all⟩
    exfalso
    obtain⟨c,r,e4,_,WL⟩:=Vl n hn;rw [e3]at e4;simp at e4;exact WL e4.1.symm
  ·intro h;have hc:Can m:=⟨h.ne,h.all,fun q e=>(h.zero q e).1⟩;have e:=cJ hc
   have hn:0<val m:=by
    rcases Nat.eq_zero_or_pos (val m)with h0|h0
    ·rw [h0,EG (by omega)]at e;have:=(h.zero [] e.symm).2;simp at this
    ·exact h0
   refine⟨-(val m:Int),by rw [VD _ hn,e],?_⟩;rw [show (-(val m:Int)).natAbs=val m by omega,e];exact h.len
 ·rw [h1,h2];constructor
  ·rintro⟨z,e,hl⟩
   rcases Ds z with⟨n,rfl,e2⟩|⟨n,hn,rfl,e2⟩
   ·rw [e2]at e;subst e;have hc:=gG n;exact⟨hc.ne,by simpa using hl,fun q e3=>⟨hc.head q e3,rfl⟩,hc.all⟩
   ·rw [e2]at e;subst e;simp [List.isPrefixOf]at h1
  ·intro h;have hc:Can l:=⟨h.ne,h.all,fun q e=>(h.zero q e).1⟩;have e:=cJ hc;exact⟨(val l:Int),by rw [EX,e],by simp only [Int.natAbs_natCast];rw [e];exact h.len⟩
def CP(l:Bs):Prop:=∃q:Rat,l=R q/\(D q.num.natAbs).length<=200/\(D q.den).length<=200
theorem xk(l:Bs):(∃n d,l=n++47::d/\(47:UInt8)∉n/\Lib.cut l [47]=(n,d,true))∨((47:UInt8)∉l/\Lib.cut l [47]=(l,[],false)):=by
 by_cases h:(47:UInt8)∈l
 ·obtain⟨n,d,e,hn⟩:=List.eq_append_cons_of_mem h;exact .inl ⟨n,d,e,hn,by rw [e];exact N4 hn⟩
 ·exact .inr ⟨h,Wm h⟩
theorem ZM{n d:Bs}(hn:(47:UInt8)∉n):CP (n++47::d)↔∃a b:Int,n=I a/\d=I b/\(D a.natAbs).length<=200/\(D b.natAbs).length<=200/\1<b/\a≠0/\Int.gcd a b=1:=by
 constructor
 ·rintro⟨q,e,h1,h2⟩;have hc:=Sc q;rw [←e,N4 hn]at hc;by_cases hd:q.den=1
  ·rw [if_pos hd]at hc;simp at hc
  ·rw [if_neg hd]at hc;simp only [Prod.mk.injEq,and_true]at hc;refine⟨q.num,q.den,hc.1,by rw [hc.2,EX],h1,by simpa using h2,by have:=q.den_pos;omega,fun h0=>?_,?_⟩
   ·have:=q.reduced;rw [h0]at this;simp at this;exact hd this
   ·have:=q.reduced;unfold Nat.Coprime at this;unfold Int.gcd;rw [Int.natAbs_natCast];exact this
 ·rintro⟨a,b,rfl,rfl,h1,h2,hb,ha,hg⟩;obtain⟨b,rfl⟩:=Int.eq_ofNat_of_zero_le (show 0<=b by omega);unfold Int.gcd at hg;rw [Int.natAbs_natCast]at hg h2;refine⟨⟨a,b,by omega,hg⟩,?_,h1,h2⟩;rw [Se (by show b≠1;omega),EX]
theorem AeP{l:Bs}(hn:(47:UInt8)∉l):CP l↔Jy l:=by
 constructor
 ·rintro⟨q,e,h1,h2⟩;by_cases hd:q.den=1
  ·exact⟨q.num,by rw [e,Pr hd],h1⟩
  ·rw [e,Se hd]at hn;simp at hn
 ·rintro⟨z,rfl,h⟩;exact⟨(z:Rat),(eI z).symm,h,by show (D 1).length<=200;rw [EG (by omega)];simp⟩
end Kl
namespace Kl
structure Pt where
 x:Rat
 y:Rat
structure Sg where
 a:Pt
 b:Pt
def CH(a b k:Rat):Rat:=a+k*(b-a)
def Im(a b:Rat):Rat:=if a<b then b else a
def Io(a b:Rat):Rat:=if b<a then b else a
/-! ### Pixels -/
/-! ### Neighbours -/
end Kl
namespace Go.Proofs.YtnfedbopbcegjaaGreatDoor
open Go.RowKit Kl
def zs(l:List Int):List Value:=l.map fun x=>.int .i64 x
def zn(l:List Nat):List Int:=l.map fun (x:Nat)=>(x:Int)
/-! ### carry -/
/-! ### joined -/
/-! ### times -/
/-! ### parts: one digit of a quotient -/
end Go.Proofs.YtnfedbopbcegjaaGreatDoor
namespace Kl
def Ik(b:UInt8):Bool:=(decide (97<=b.toNat)&&decide (b.toNat<=122))||(decide (65<=b.toNat)&&decide (b.toNat<=90))
def KX(b:UInt8):Bool:=(decide (48<=b.toNat)&&decide (b.toNat<=57))||decide (b.toNat=95)
def nameB:Bs→Bool
 | []=>false
 | b::l=>decide (l.length < 32) && (Ik b && l.all (fun c=>Ik c || KX c))
def ER{α:Type}(p:α→Bool)(l:List α):Int:=match l.findIdx? p with|some j=>(j:Int)|none=>-1
theorem Zn{α:Type}{p:α→Bool}{l:List α}{j:Nat}(hj:j<l.length)(hno:∀q∈l.take j,p q=false)(h:p l[j]=true):ER p l=(j:Int):=by
 unfold ER
 have:l.findIdx? p=some j:=by rw [List.findIdx?_eq_some_iff_getElem];refine⟨hj,h,fun i hi=>?_⟩;rw [Bool.not_eq_true];refine hno l[i] ?_;rw [List.mem_take_iff_getElem];exact⟨i,by omega,rfl⟩
 rw [this]
theorem Zo{α:Type}{p:α→Bool}{l:List α}(hno:∀q∈l,p q=false):ER p l = -1:=by
 unfold ER
 have:l.findIdx? p=none:=by rw [List.findIdx?_eq_none_iff];exact hno
 rw [this]
theorem Zm{α:Type}(p:α→Bool)(l:List α):decide (0<=ER p l)=l.any p:=by
 unfold ER
 cases h:l.findIdx? p with
 | none=>
  rw [List.findIdx?_eq_none_iff]at h
  symm
  simp only [Int.reduceNeg,Int.reduceLE,decide_false,List.any_eq_false];intro x hx;rw [h x hx];simp
 | some j=>
  rw [List.findIdx?_eq_some_iff_getElem]at h;obtain⟨hj,h1,_⟩:=h;rw [decide_eq_true (by simp)]
  symm
  rw [List.any_eq_true];exact⟨_,List.getElem_mem hj,h1⟩
end Kl
