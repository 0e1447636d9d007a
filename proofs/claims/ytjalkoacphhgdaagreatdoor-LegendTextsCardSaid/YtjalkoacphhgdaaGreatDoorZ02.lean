/- Z02: Shelf LP Drn. -/
import Derived.Shelf.Small.Strs
import Derived.Shelf.Small.Wraps
import Derived.Shelf.Strconv.Itoa3
import Derived.Shelf.Strconv.ErrVar
import Derived.Shelf.Strconv.ErrVarAll
import Derived.Shelf.Strconv.ParseInt10All
import Derived.Shelf.Pu.ErrVarParseUint
import Derived.Shelf.Strings.Shaped
import Derived.Shelf.Strings.BuilderCap
import Derived.Shelf.Slices.Turned
import Derived.Shelf.Slices.Clone
import Derived.Shelf.Slices.CompactS
import Derived.Shelf.SlSortCmp.Small
import Derived.Shelf.SlSortCmp.Whole1
import Derived.Test.YtjalkoacphhgdaaGreatDoorZ01
namespace Go.Proofs
open Go.Shelf
def Tryz.lays169_ren:Go.Shelf.Ren:=⟨fun|169=>287|n=>n,fun|70=>328|9=>9|0=>0|72=>330|37=>52|127=>367|3=>3|5=>5|n=>n,fun|n=>n⟩
theorem Tryz.lays169:Go.Proofs.Lays.n169 Tryz.prog Tryz.lays169_ren:={
 mixed:=by kernel_rfl
 f169:=Tryz.func287.trans (congrArg some (by kernel_rfl))
 t0:=Tryz.underlying0
 a0:=Tryz.isAgg0
 z0:=Tryz.sizeOf0
 v0:=Tryz.zeroValue0
 t3:=Tryz.underlying3
 a3:=Tryz.isAgg3
 z3:=Tryz.sizeOf3
 v3:=Tryz.zeroValue3
 t9:=Tryz.underlying9
 a9:=Tryz.isAgg9
 z9:=Tryz.sizeOf9
 v9:=Tryz.zeroValue9
 t37:=Tryz.underlying52
 a37:=Tryz.isAgg52
 z37:=Tryz.sizeOf52
 v37:=Tryz.zeroValue52
 t70:=Tryz.underlying328
 a70:=Tryz.isAgg328
 z70:=Tryz.sizeOf328
 v70:=Tryz.zeroValue328
 t72:=Tryz.underlying330
 a72:=Tryz.isAgg330
 z72:=Tryz.sizeOf330
 v72:=Tryz.zeroValue330
 t127:=Tryz.underlying367
 a127:=Tryz.isAgg367
 z127:=Tryz.sizeOf367
 v127:=Tryz.zeroValue367}
theorem Tryz.Builder_Extra_169:Builder.Extra Tryz.prog Tryz.lays169_ren:={
 sizeBuilder:=by kernel_rfl
 liesBuilder:=by kernel_rfl
 t5:=Tryz.underlying5
 a5:=Tryz.isAgg5
 z5:=Tryz.sizeOf5
 v5:=Tryz.zeroValue5
 infoByte:=by kernel_rfl
 cellsByte:=by kernel_rfl
 sizeByte:=by kernel_rfl
 neB5:=by decide}
def Tryz.lays106_ren:Go.Shelf.Ren:=⟨fun|106=>100|213=>178|265=>255|n=>n,fun|9=>9|3=>3|n=>n,fun|n=>n⟩
theorem Tryz.lays106:Go.Proofs.Lays.n106 Tryz.prog Tryz.lays106_ren:={
 mixed:=by kernel_rfl
 f106:=Tryz.func100.trans (congrArg some (by kernel_rfl))
 f213:=Tryz.func178.trans (congrArg some (by kernel_rfl))
 f265:=Tryz.func255.trans (congrArg some (by kernel_rfl))
 t3:=Tryz.underlying3
 a3:=Tryz.isAgg3
 z3:=Tryz.sizeOf3
 v3:=Tryz.zeroValue3
 t9:=Tryz.underlying9
 a9:=Tryz.isAgg9
 z9:=Tryz.sizeOf9
 v9:=Tryz.zeroValue9}
open Go.RowKit in
theorem Tryz.strings_Compare(a b:ByteArray)(w:World) :
  Calls Tryz.prog 100 #[.string a,.string b] w fun e w'=>e=.returned (.int .i64 (Lib.compareBytes a.data.toList b.data.toList))/\w'=w:=Any.strings_Compare Tryz.lays106 a b w
def Tryz.lays103_ren:Go.Shelf.Ren:=⟨fun|103=>277|210=>333|206=>337|n=>n,fun|9=>9|4=>4|24=>321|3=>3|n=>n,fun|n=>n⟩
theorem Tryz.lays103:Go.Proofs.Lays.n103 Tryz.prog Tryz.lays103_ren:={
 mixed:=by kernel_rfl
 f103:=Tryz.func277.trans (congrArg some (by kernel_rfl))
 f206:=Tryz.func337.trans (congrArg some (by kernel_rfl))
 f210:=Tryz.func333.trans (congrArg some (by kernel_rfl))
 t3:=Tryz.underlying3
 a3:=Tryz.isAgg3
 z3:=Tryz.sizeOf3
 v3:=Tryz.zeroValue3
 t4:=Tryz.underlying4
 a4:=Tryz.isAgg4
 z4:=Tryz.sizeOf4
 v4:=Tryz.zeroValue4
 t9:=Tryz.underlying9
 a9:=Tryz.isAgg9
 z9:=Tryz.sizeOf9
 v9:=Tryz.zeroValue9
 t24:=Tryz.underlying321
 a24:=Tryz.isAgg321
 z24:=Tryz.sizeOf321
 v24:=Tryz.zeroValue321}
open Go.RowKit in
theorem Tryz.strings_CutPrefix(s p:ByteArray)(w:World) :
  Calls Tryz.prog 277 #[.string s,.string p] w fun e w'=>e=.returned (.tuple #[.string ⟨(Lib.trimPrefix s.data.toList p.data.toList).toArray⟩,.bool (Lib.hasPrefix s.data.toList p.data.toList)])/\w'=w:=Any.strings_CutPrefix Tryz.lays103 s p w
open Go.RowKit in
theorem Tryz.Builder_String_any_k(B b:Nat)(l:List UInt8)(w:World)(h:Lib.IsBuilderF 330 5 B b (Lib.byteCells l) w)(Zx:B<=w.heap.size) :
  Calls Tryz.prog 287 #[.pointer (some ⟨b,0,none⟩)] w fun e w'=>e=.returned (.string ⟨l.toArray⟩)/\(Lib.IsBuilderF 330 5 B b (Lib.byteCells l) w'/\Below B w w'/\Lib.OthersKept 5 (some b) w w'):=Any.Builder_String_any_k Tryz.lays169 Tryz.Builder_Extra_169 B b l w h Zx
def Tryz.lays283_ren:Go.Shelf.Ren:=⟨fun|283=>294|n=>n,fun|3=>3|9=>9|4=>4|n=>n,fun|n=>n⟩
theorem Tryz.lays283:Go.Proofs.Lays.n283 Tryz.prog Tryz.lays283_ren:={
 mixed:=by kernel_rfl
 f283:=Tryz.func294.trans (congrArg some (by kernel_rfl))
 t3:=Tryz.underlying3
 a3:=Tryz.isAgg3
 z3:=Tryz.sizeOf3
 v3:=Tryz.zeroValue3
 t4:=Tryz.underlying4
 a4:=Tryz.isAgg4
 z4:=Tryz.sizeOf4
 v4:=Tryz.zeroValue4
 t9:=Tryz.underlying9
 a9:=Tryz.isAgg9
 z9:=Tryz.sizeOf9
 v9:=Tryz.zeroValue9}
open Go.Lib in
theorem Tryz.internal_strconv_small(i:Nat)(h:i<100)(w:World) :
  Calls Tryz.prog 294 #[.int .i64 i] w fun e w'=>e=.returned (.string ⟨(Lib.decDigits i).toArray⟩)/\w'=w:=Any.internal_strconv_small Tryz.lays283 i h w
def Tryz.laysM284_ren:Go.Shelf.Ren:=⟨fun|284=>295|129=>131|317=>344|318=>345|n=>n,fun|53=>184|3=>3|212=>373|0=>0|4=>4|46=>113|5=>5|9=>9|n=>n,fun|17=>3|n=>n⟩
theorem Tryz.laysM284:Go.Proofs.LaysM.n284 Tryz.prog Tryz.laysM284_ren:={
 mixed:=by kernel_rfl
 f129:=Tryz.func131.trans (congrArg some (by kernel_rfl))
 f284:=Tryz.func295.trans (congrArg some (by kernel_rfl))
 f317:=Tryz.func344.trans (congrArg some (by kernel_rfl))
 f318:=Tryz.func345.trans (congrArg some (by kernel_rfl))
 t0:=Tryz.underlying0
 a0:=Tryz.isAgg0
 z0:=Tryz.sizeOf0
 v0:=Tryz.zeroValue0
 t3:=Tryz.underlying3
 a3:=Tryz.isAgg3
 z3:=Tryz.sizeOf3
 v3:=Tryz.zeroValue3
 t4:=Tryz.underlying4
 a4:=Tryz.isAgg4
 z4:=Tryz.sizeOf4
 v4:=Tryz.zeroValue4
 t5:=Tryz.underlying5
 a5:=Tryz.isAgg5
 z5:=Tryz.sizeOf5
 v5:=Tryz.zeroValue5
 t9:=Tryz.underlying9
 a9:=Tryz.isAgg9
 z9:=Tryz.sizeOf9
 v9:=Tryz.zeroValue9
 t46:=Tryz.underlying113
 a46:=Tryz.isAgg113
 z46:=Tryz.sizeOf113
 v46:=Tryz.zeroValue113
 t53:=Tryz.underlying184
 a53:=Tryz.isAgg184
 z53:=Tryz.sizeOf184
 v53:=Tryz.zeroValue184
 t212:=Tryz.underlying373
 a212:=Tryz.isAgg373
 z212:=Tryz.sizeOf373
 v212:=Tryz.zeroValue373
 g17:=by kernel_rfl
 i0:=by kernel_rfl
 i3:=by kernel_rfl
 i4:=by kernel_rfl
 i5:=by kernel_rfl
 i9:=by kernel_rfl
 i46:=by kernel_rfl
 i53:=by kernel_rfl
 i212:=by kernel_rfl
 m17:=by kernel_rfl}
open Go.Lib in
theorem Tryz.internal_strconv_numDigits(u:Nat)(h1:1<=u)(h2:u<18446744073709551616)(w:World)(htab:Lib.TabIs Tryz.prog w "internal/strconv.uint64pow10" .u64 Lib.pow10Tab) :
  Calls Tryz.prog 295 #[.int .u64 u] w fun e w'=>e=.returned (.int .i64 (Lib.nDigits u))/\w'=w:=Any.internal_strconv_numDigits Tryz.laysM284 u h1 h2 w htab
def Tryz.lays285_ren:Go.Shelf.Ren:=⟨fun|285=>296|n=>n,fun|37=>52|53=>184|3=>3|4=>4|51=>182|9=>9|5=>5|0=>0|n=>n,fun|n=>n⟩
theorem Tryz.lays285:Go.Proofs.Lays.n285 Tryz.prog Tryz.lays285_ren:={
 mixed:=by kernel_rfl
 f285:=Tryz.func296.trans (congrArg some (by kernel_rfl))
 t0:=Tryz.underlying0
 a0:=Tryz.isAgg0
 z0:=Tryz.sizeOf0
 v0:=Tryz.zeroValue0
 t3:=Tryz.underlying3
 a3:=Tryz.isAgg3
 z3:=Tryz.sizeOf3
 v3:=Tryz.zeroValue3
 t4:=Tryz.underlying4
 a4:=Tryz.isAgg4
 z4:=Tryz.sizeOf4
 v4:=Tryz.zeroValue4
 t5:=Tryz.underlying5
 a5:=Tryz.isAgg5
 z5:=Tryz.sizeOf5
 v5:=Tryz.zeroValue5
 t9:=Tryz.underlying9
 a9:=Tryz.isAgg9
 z9:=Tryz.sizeOf9
 v9:=Tryz.zeroValue9
 t37:=Tryz.underlying52
 a37:=Tryz.isAgg52
 z37:=Tryz.sizeOf52
 v37:=Tryz.zeroValue52
 t51:=Tryz.underlying182
 a51:=Tryz.isAgg182
 z51:=Tryz.sizeOf182
 v51:=Tryz.zeroValue182
 t53:=Tryz.underlying184
 a53:=Tryz.isAgg184
 z53:=Tryz.sizeOf184
 v53:=Tryz.zeroValue184}
open Go.RowKit Go.Sort Go.Lib in
theorem Tryz.internal_strconv_formatBase10(blk off cap:Nat)(u:Nat)(d:Array UInt8)(w:World)(hH:Holds (fun (b:UInt8)=>Value.int .u8 (b.toNat:Int)) w blk off d)(hu:u<10^d.size)(NR:u<18446744073709551616)(hsz:d.size<4611686018427387904) :
  Calls Tryz.prog 296 #[.slice (some ⟨blk,off,none⟩) d.size cap,.int .u64 u] w fun e w'=>e=.returned (.tuple #[])/\∃(n v':Nat) (dk:Array UInt8),w'=(putRow (fun (b:UInt8)=>Value.int .u8 (b.toNat:Int)) w blk off dk).drewN n/\FmtInv d.size u 0 v' dk:=Any.internal_strconv_formatBase10 Tryz.lays285 blk off cap u d w hH hu NR hsz
def Tryz.laysM171_ren:Go.Shelf.Ren:=⟨fun|171=>90|243=>167|246=>242|283=>294|284=>295|285=>296|286=>297|129=>131|317=>344|318=>345|319=>346|320=>347|337=>363|338=>364|n=>n,fun|3=>3|9=>9|2=>2|4=>4|171=>344|0=>0|53=>184|37=>52|5=>5|173=>346|212=>373|51=>182|20=>20|213=>374|46=>113|232=>392|233=>393|n=>n,fun|17=>3|18=>4|19=>5|n=>n⟩
theorem Tryz.laysM171:Go.Proofs.LaysM.n171 Tryz.prog Tryz.laysM171_ren:={
 mixed:=by kernel_rfl
 f129:=Tryz.func131.trans (congrArg some (by kernel_rfl))
 f171:=Tryz.func90.trans (congrArg some (by kernel_rfl))
 f243:=Tryz.func167.trans (congrArg some (by kernel_rfl))
 f246:=Tryz.func242.trans (congrArg some (by kernel_rfl))
 f283:=Tryz.func294.trans (congrArg some (by kernel_rfl))
 f284:=Tryz.func295.trans (congrArg some (by kernel_rfl))
 f285:=Tryz.func296.trans (congrArg some (by kernel_rfl))
 f286:=Tryz.func297.trans (congrArg some (by kernel_rfl))
 f317:=Tryz.func344.trans (congrArg some (by kernel_rfl))
 f318:=Tryz.func345.trans (congrArg some (by kernel_rfl))
 f319:=Tryz.func346.trans (congrArg some (by kernel_rfl))
 f320:=Tryz.func347.trans (congrArg some (by kernel_rfl))
 f337:=Tryz.func363.trans (congrArg some (by kernel_rfl))
 f338:=Tryz.func364.trans (congrArg some (by kernel_rfl))
 t0:=Tryz.underlying0
 a0:=Tryz.isAgg0
 z0:=Tryz.sizeOf0
 v0:=Tryz.zeroValue0
 t2:=Tryz.underlying2
 a2:=Tryz.isAgg2
 z2:=Tryz.sizeOf2
 v2:=Tryz.zeroValue2
 t3:=Tryz.underlying3
 a3:=Tryz.isAgg3
 z3:=Tryz.sizeOf3
 v3:=Tryz.zeroValue3
 t4:=Tryz.underlying4
 a4:=Tryz.isAgg4
 z4:=Tryz.sizeOf4
 v4:=Tryz.zeroValue4
 t5:=Tryz.underlying5
 a5:=Tryz.isAgg5
 z5:=Tryz.sizeOf5
 v5:=Tryz.zeroValue5
 t9:=Tryz.underlying9
 a9:=Tryz.isAgg9
 z9:=Tryz.sizeOf9
 v9:=Tryz.zeroValue9
 t20:=Tryz.underlying20
 a20:=Tryz.isAgg20
 z20:=Tryz.sizeOf20
 v20:=Tryz.zeroValue20
 t37:=Tryz.underlying52
 a37:=Tryz.isAgg52
 z37:=Tryz.sizeOf52
 v37:=Tryz.zeroValue52
 t46:=Tryz.underlying113
 a46:=Tryz.isAgg113
 z46:=Tryz.sizeOf113
 v46:=Tryz.zeroValue113
 t51:=Tryz.underlying182
 a51:=Tryz.isAgg182
 z51:=Tryz.sizeOf182
 v51:=Tryz.zeroValue182
 t53:=Tryz.underlying184
 a53:=Tryz.isAgg184
 z53:=Tryz.sizeOf184
 v53:=Tryz.zeroValue184
 t171:=Tryz.underlying344
 a171:=Tryz.isAgg344
 z171:=Tryz.sizeOf344
 v171:=Tryz.zeroValue344
 t173:=Tryz.underlying346
 a173:=Tryz.isAgg346
 z173:=Tryz.sizeOf346
 v173:=Tryz.zeroValue346
 t212:=Tryz.underlying373
 a212:=Tryz.isAgg373
 z212:=Tryz.sizeOf373
 v212:=Tryz.zeroValue373
 t213:=Tryz.underlying374
 a213:=Tryz.isAgg374
 z213:=Tryz.sizeOf374
 t232:=Tryz.underlying392
 a232:=Tryz.isAgg392
 z232:=Tryz.sizeOf392
 v232:=Tryz.zeroValue392
 t233:=Tryz.underlying393
 a233:=Tryz.isAgg393
 z233:=Tryz.sizeOf393
 v233:=Tryz.zeroValue393
 g17:=by kernel_rfl
 g18:=by kernel_rfl
 g19:=by kernel_rfl
 i0:=by kernel_rfl
 i2:=by kernel_rfl
 i3:=by kernel_rfl
 i4:=by kernel_rfl
 i5:=by kernel_rfl
 i9:=by kernel_rfl
 i20:=by kernel_rfl
 i37:=by kernel_rfl
 i46:=by kernel_rfl
 i51:=by kernel_rfl
 i53:=by kernel_rfl
 i171:=by kernel_rfl
 i173:=by kernel_rfl
 i212:=by kernel_rfl
 i232:=by kernel_rfl
 i233:=by kernel_rfl
 m17:=by kernel_rfl
 m18:=by kernel_rfl
 m19:=by kernel_rfl}
open Go.RowKit Go.Sort Go.Lib in
theorem Tryz.strconv_Itoa(n:Int)(h0:-9223372036854775808<=n)(h1:n<=9223372036854775807)(w:World)(htab:Lib.TabIs Tryz.prog w "internal/strconv.uint64pow10" .u64 Lib.pow10Tab) :
  Calls Tryz.prog 90 #[.int .i64 n] w fun e w'=>e=.returned (.string ⟨(Lib.itoa n).toArray⟩)/\∃k os,w'=grow (w.drewN k) os:=Any.strconv_Itoa Tryz.laysM171 n h0 h1 w htab
def Tryz.laysC172_ren:Go.Shelf.Ren:=⟨fun|172=>159|244=>237|245=>238|247=>289|279=>290|280=>291|281=>292|282=>293|287=>338|316=>342|171=>90|205=>343|321=>360|322=>361|243=>167|246=>242|283=>294|284=>295|285=>296|286=>297|129=>131|317=>344|318=>345|319=>346|320=>347|337=>363|338=>364|n=>n,fun|9=>9|3=>3|75=>216|76=>217|4=>4|5=>5|167=>338|37=>52|0=>0|85=>339|2=>2|168=>341|53=>184|175=>325|46=>113|210=>370|127=>367|145=>387|143=>385|21=>21|171=>344|173=>346|212=>373|51=>182|20=>20|213=>374|232=>392|233=>393|80=>336|n=>n,fun|15=>1|16=>2|17=>3|18=>4|19=>5|n=>n⟩
theorem Tryz.laysC172:Go.Proofs.LaysC.n172 Tryz.prog Tryz.laysC172_ren:={
 mixed:=by kernel_rfl
 f129:=Tryz.func131.trans (congrArg some (by kernel_rfl))
 f171:=Tryz.func90.trans (congrArg some (by kernel_rfl))
 f172:=Tryz.func159.trans (congrArg some (by kernel_rfl))
 f205:=Tryz.func343.trans (congrArg some (by kernel_rfl))
 f243:=Tryz.func167.trans (congrArg some (by kernel_rfl))
 f244:=Tryz.func237.trans (congrArg some (by kernel_rfl))
 f245:=Tryz.func238.trans (congrArg some (by kernel_rfl))
 f246:=Tryz.func242.trans (congrArg some (by kernel_rfl))
 f247:=Tryz.func289.trans (congrArg some (by kernel_rfl))
 f279:=Tryz.func290.trans (congrArg some (by kernel_rfl))
 f280:=Tryz.func291.trans (congrArg some (by kernel_rfl))
 f281:=Tryz.func292.trans (congrArg some (by kernel_rfl))
 f282:=Tryz.func293.trans (congrArg some (by kernel_rfl))
 f283:=Tryz.func294.trans (congrArg some (by kernel_rfl))
 f284:=Tryz.func295.trans (congrArg some (by kernel_rfl))
 f285:=Tryz.func296.trans (congrArg some (by kernel_rfl))
 f286:=Tryz.func297.trans (congrArg some (by kernel_rfl))
 f287:=Tryz.func338.trans (congrArg some (by kernel_rfl))
 f316:=Tryz.func342.trans (congrArg some (by kernel_rfl))
 f317:=Tryz.func344.trans (congrArg some (by kernel_rfl))
 f318:=Tryz.func345.trans (congrArg some (by kernel_rfl))
 f319:=Tryz.func346.trans (congrArg some (by kernel_rfl))
 f320:=Tryz.func347.trans (congrArg some (by kernel_rfl))
 f321:=Tryz.func360.trans (congrArg some (by kernel_rfl))
 f322:=Tryz.func361.trans (congrArg some (by kernel_rfl))
 f337:=Tryz.func363.trans (congrArg some (by kernel_rfl))
 f338:=Tryz.func364.trans (congrArg some (by kernel_rfl))
 t0:=Tryz.underlying0
 a0:=Tryz.isAgg0
 z0:=Tryz.sizeOf0
 v0:=Tryz.zeroValue0
 t2:=Tryz.underlying2
 a2:=Tryz.isAgg2
 z2:=Tryz.sizeOf2
 v2:=Tryz.zeroValue2
 t3:=Tryz.underlying3
 a3:=Tryz.isAgg3
 z3:=Tryz.sizeOf3
 v3:=Tryz.zeroValue3
 t4:=Tryz.underlying4
 a4:=Tryz.isAgg4
 z4:=Tryz.sizeOf4
 v4:=Tryz.zeroValue4
 t5:=Tryz.underlying5
 a5:=Tryz.isAgg5
 z5:=Tryz.sizeOf5
 v5:=Tryz.zeroValue5
 t9:=Tryz.underlying9
 a9:=Tryz.isAgg9
 z9:=Tryz.sizeOf9
 v9:=Tryz.zeroValue9
 t20:=Tryz.underlying20
 a20:=Tryz.isAgg20
 z20:=Tryz.sizeOf20
 v20:=Tryz.zeroValue20
 t21:=Tryz.underlying21
 a21:=Tryz.isAgg21
 z21:=Tryz.sizeOf21
 v21:=Tryz.zeroValue21
 t37:=Tryz.underlying52
 a37:=Tryz.isAgg52
 z37:=Tryz.sizeOf52
 v37:=Tryz.zeroValue52
 t46:=Tryz.underlying113
 a46:=Tryz.isAgg113
 z46:=Tryz.sizeOf113
 v46:=Tryz.zeroValue113
 t51:=Tryz.underlying182
 a51:=Tryz.isAgg182
 z51:=Tryz.sizeOf182
 v51:=Tryz.zeroValue182
 t53:=Tryz.underlying184
 a53:=Tryz.isAgg184
 z53:=Tryz.sizeOf184
 v53:=Tryz.zeroValue184
 t75:=Tryz.underlying216
 a75:=Tryz.isAgg216
 z75:=Tryz.sizeOf216
 v75:=Tryz.zeroValue216
 t76:=Tryz.underlying217
 a76:=Tryz.isAgg217
 z76:=Tryz.sizeOf217
 v76:=Tryz.zeroValue217
 t85:=Tryz.underlying339
 a85:=Tryz.isAgg339
 z85:=Tryz.sizeOf339
 v85:=Tryz.zeroValue339
 t127:=Tryz.underlying367
 a127:=Tryz.isAgg367
 z127:=Tryz.sizeOf367
 v127:=Tryz.zeroValue367
 t143:=Tryz.underlying385
 a143:=Tryz.isAgg385
 z143:=Tryz.sizeOf385
 v143:=Tryz.zeroValue385
 t145:=Tryz.underlying387
 a145:=Tryz.isAgg387
 z145:=Tryz.sizeOf387
 v145:=Tryz.zeroValue387
 t167:=Tryz.underlying338
 a167:=Tryz.isAgg338
 z167:=Tryz.sizeOf338
 v167:=Tryz.zeroValue338
 t168:=Tryz.underlying341
 a168:=Tryz.isAgg341
 z168:=Tryz.sizeOf341
 v168:=Tryz.zeroValue341
 t171:=Tryz.underlying344
 a171:=Tryz.isAgg344
 z171:=Tryz.sizeOf344
 v171:=Tryz.zeroValue344
 t173:=Tryz.underlying346
 a173:=Tryz.isAgg346
 z173:=Tryz.sizeOf346
 v173:=Tryz.zeroValue346
 t175:=Tryz.underlying325
 a175:=Tryz.isAgg325
 z175:=Tryz.sizeOf325
 v175:=Tryz.zeroValue325
 t210:=Tryz.underlying370
 a210:=Tryz.isAgg370
 z210:=Tryz.sizeOf370
 v210:=Tryz.zeroValue370
 t212:=Tryz.underlying373
 a212:=Tryz.isAgg373
 z212:=Tryz.sizeOf373
 v212:=Tryz.zeroValue373
 t213:=Tryz.underlying374
 a213:=Tryz.isAgg374
 z213:=Tryz.sizeOf374
 t232:=Tryz.underlying392
 a232:=Tryz.isAgg392
 z232:=Tryz.sizeOf392
 v232:=Tryz.zeroValue392
 t233:=Tryz.underlying393
 a233:=Tryz.isAgg393
 z233:=Tryz.sizeOf393
 v233:=Tryz.zeroValue393
 g15:=by kernel_rfl
 g16:=by kernel_rfl
 g17:=by kernel_rfl
 g18:=by kernel_rfl
 g19:=by kernel_rfl
 t80:=Tryz.underlying336
 a80:=Tryz.isAgg336
 z80:=Tryz.sizeOf336
 v80:=Tryz.zeroValue336
 i0:=by kernel_rfl
 i2:=by kernel_rfl
 i3:=by kernel_rfl
 i4:=by kernel_rfl
 i5:=by kernel_rfl
 i9:=by kernel_rfl
 i20:=by kernel_rfl
 i21:=by kernel_rfl
 i37:=by kernel_rfl
 i46:=by kernel_rfl
 i51:=by kernel_rfl
 i53:=by kernel_rfl
 i75:=by kernel_rfl
 i76:=by kernel_rfl
 i80:=by kernel_rfl
 i85:=by kernel_rfl
 i127:=by kernel_rfl
 i143:=by kernel_rfl
 i145:=by kernel_rfl
 i167:=by kernel_rfl
 i168:=by kernel_rfl
 i171:=by kernel_rfl
 i173:=by kernel_rfl
 i175:=by kernel_rfl
 i210:=by kernel_rfl
 i212:=by kernel_rfl
 i232:=by kernel_rfl
 i233:=by kernel_rfl
 m15:=by kernel_rfl
 m16:=by kernel_rfl
 m17:=by kernel_rfl
 m18:=by kernel_rfl
 m19:=by kernel_rfl
 c0:=by kernel_rfl
 c2:=by kernel_rfl
 c3:=by kernel_rfl
 c4:=by kernel_rfl
 c5:=by kernel_rfl
 c9:=by kernel_rfl
 c20:=by kernel_rfl
 c21:=by kernel_rfl
 c37:=by kernel_rfl
 c46:=by kernel_rfl
 c51:=by kernel_rfl
 c53:=by kernel_rfl
 c75:=by kernel_rfl
 c76:=by kernel_rfl
 c80:=by kernel_rfl
 c85:=by kernel_rfl
 c127:=by kernel_rfl
 c143:=by kernel_rfl
 c145:=by kernel_rfl
 c167:=by kernel_rfl
 c168:=by kernel_rfl
 c171:=by kernel_rfl
 c173:=by kernel_rfl
 c175:=by kernel_rfl
 c210:=by kernel_rfl
 c212:=by kernel_rfl
 c213:=by kernel_rfl
 c232:=by kernel_rfl
 c233:=by kernel_rfl}
open Go.RowKit in
theorem Tryz.strconv_Atoi_ok(s:ByteArray)(hmax:s.size<=9223372036854775806)(v:Int)(h:Lib.atoiAll s.data.toList=.ok v)(w:World) :
  Calls Tryz.prog 159 #[.string s] w fun e w'=>e=.returned (.tuple #[.int .i64 v,.nilIface])/\(w'=w∨∃t,w'=Lib.bytesWorld w 5 t):=Any.strconv_Atoi_ok Tryz.laysC172 s hmax v h w
def Tryz.laysPu14_ren:Go.Shelf.Ren:=⟨fun|14=>281|16=>338|17=>238|19=>360|20=>361|21=>290|22=>291|23=>292|24=>293|25=>342|27=>90|26=>343|28=>167|29=>242|30=>294|31=>295|32=>296|33=>297|35=>131|34=>344|36=>345|37=>346|38=>347|39=>363|40=>364|n=>n,fun|9=>9|3=>3|22=>184|24=>216|25=>325|4=>4|34=>338|5=>5|36=>113|37=>52|0=>0|39=>341|21=>21|44=>370|47=>367|50=>387|48=>385|2=>2|52=>344|55=>346|59=>373|60=>182|20=>20|61=>374|65=>392|66=>393|67=>336|n=>n,fun|0=>1|1=>2|2=>3|3=>4|4=>5|n=>n⟩
theorem Tryz.laysPu14:Go.Proofs.LaysPu.n14 Tryz.prog Tryz.laysPu14_ren:={
 mixed:=by kernel_rfl
 f14:=Tryz.func281.trans (congrArg some (by kernel_rfl))
 f16:=Tryz.func338.trans (congrArg some (by kernel_rfl))
 f17:=Tryz.func238.trans (congrArg some (by kernel_rfl))
 f19:=Tryz.func360.trans (congrArg some (by kernel_rfl))
 f20:=Tryz.func361.trans (congrArg some (by kernel_rfl))
 f21:=Tryz.func290.trans (congrArg some (by kernel_rfl))
 f22:=Tryz.func291.trans (congrArg some (by kernel_rfl))
 f23:=Tryz.func292.trans (congrArg some (by kernel_rfl))
 f24:=Tryz.func293.trans (congrArg some (by kernel_rfl))
 f25:=Tryz.func342.trans (congrArg some (by kernel_rfl))
 f26:=Tryz.func343.trans (congrArg some (by kernel_rfl))
 f27:=Tryz.func90.trans (congrArg some (by kernel_rfl))
 f28:=Tryz.func167.trans (congrArg some (by kernel_rfl))
 f29:=Tryz.func242.trans (congrArg some (by kernel_rfl))
 f30:=Tryz.func294.trans (congrArg some (by kernel_rfl))
 f31:=Tryz.func295.trans (congrArg some (by kernel_rfl))
 f32:=Tryz.func296.trans (congrArg some (by kernel_rfl))
 f33:=Tryz.func297.trans (congrArg some (by kernel_rfl))
 f34:=Tryz.func344.trans (congrArg some (by kernel_rfl))
 f35:=Tryz.func131.trans (congrArg some (by kernel_rfl))
 f36:=Tryz.func345.trans (congrArg some (by kernel_rfl))
 f37:=Tryz.func346.trans (congrArg some (by kernel_rfl))
 f38:=Tryz.func347.trans (congrArg some (by kernel_rfl))
 f39:=Tryz.func363.trans (congrArg some (by kernel_rfl))
 f40:=Tryz.func364.trans (congrArg some (by kernel_rfl))
 t0:=Tryz.underlying0
 a0:=Tryz.isAgg0
 z0:=Tryz.sizeOf0
 v0:=Tryz.zeroValue0
 i0:=by kernel_rfl
 t2:=Tryz.underlying2
 a2:=Tryz.isAgg2
 z2:=Tryz.sizeOf2
 v2:=Tryz.zeroValue2
 i2:=by kernel_rfl
 t3:=Tryz.underlying3
 a3:=Tryz.isAgg3
 z3:=Tryz.sizeOf3
 v3:=Tryz.zeroValue3
 i3:=by kernel_rfl
 t4:=Tryz.underlying4
 a4:=Tryz.isAgg4
 z4:=Tryz.sizeOf4
 v4:=Tryz.zeroValue4
 i4:=by kernel_rfl
 t5:=Tryz.underlying5
 a5:=Tryz.isAgg5
 z5:=Tryz.sizeOf5
 v5:=Tryz.zeroValue5
 i5:=by kernel_rfl
 t9:=Tryz.underlying9
 a9:=Tryz.isAgg9
 z9:=Tryz.sizeOf9
 v9:=Tryz.zeroValue9
 i9:=by kernel_rfl
 t20:=Tryz.underlying20
 a20:=Tryz.isAgg20
 z20:=Tryz.sizeOf20
 v20:=Tryz.zeroValue20
 i20:=by kernel_rfl
 t21:=Tryz.underlying21
 a21:=Tryz.isAgg21
 z21:=Tryz.sizeOf21
 v21:=Tryz.zeroValue21
 i21:=by kernel_rfl
 t22:=Tryz.underlying184
 a22:=Tryz.isAgg184
 z22:=Tryz.sizeOf184
 v22:=Tryz.zeroValue184
 i22:=by kernel_rfl
 t24:=Tryz.underlying216
 a24:=Tryz.isAgg216
 z24:=Tryz.sizeOf216
 v24:=Tryz.zeroValue216
 i24:=by kernel_rfl
 t25:=Tryz.underlying325
 a25:=Tryz.isAgg325
 z25:=Tryz.sizeOf325
 v25:=Tryz.zeroValue325
 i25:=by kernel_rfl
 t34:=Tryz.underlying338
 a34:=Tryz.isAgg338
 z34:=Tryz.sizeOf338
 v34:=Tryz.zeroValue338
 i34:=by kernel_rfl
 c34:=by kernel_rfl
 t36:=Tryz.underlying113
 a36:=Tryz.isAgg113
 z36:=Tryz.sizeOf113
 v36:=Tryz.zeroValue113
 i36:=by kernel_rfl
 t37:=Tryz.underlying52
 a37:=Tryz.isAgg52
 z37:=Tryz.sizeOf52
 v37:=Tryz.zeroValue52
 i37:=by kernel_rfl
 t39:=Tryz.underlying341
 a39:=Tryz.isAgg341
 z39:=Tryz.sizeOf341
 v39:=Tryz.zeroValue341
 i39:=by kernel_rfl
 t44:=Tryz.underlying370
 a44:=Tryz.isAgg370
 z44:=Tryz.sizeOf370
 v44:=Tryz.zeroValue370
 i44:=by kernel_rfl
 t47:=Tryz.underlying367
 a47:=Tryz.isAgg367
 z47:=Tryz.sizeOf367
 v47:=Tryz.zeroValue367
 i47:=by kernel_rfl
 t48:=Tryz.underlying385
 a48:=Tryz.isAgg385
 z48:=Tryz.sizeOf385
 v48:=Tryz.zeroValue385
 i48:=by kernel_rfl
 t50:=Tryz.underlying387
 a50:=Tryz.isAgg387
 z50:=Tryz.sizeOf387
 v50:=Tryz.zeroValue387
 i50:=by kernel_rfl
 t52:=Tryz.underlying344
 a52:=Tryz.isAgg344
 z52:=Tryz.sizeOf344
 v52:=Tryz.zeroValue344
 i52:=by kernel_rfl
 t55:=Tryz.underlying346
 a55:=Tryz.isAgg346
 z55:=Tryz.sizeOf346
 v55:=Tryz.zeroValue346
 i55:=by kernel_rfl
 t59:=Tryz.underlying373
 a59:=Tryz.isAgg373
 z59:=Tryz.sizeOf373
 v59:=Tryz.zeroValue373
 i59:=by kernel_rfl
 t60:=Tryz.underlying182
 a60:=Tryz.isAgg182
 z60:=Tryz.sizeOf182
 v60:=Tryz.zeroValue182
 i60:=by kernel_rfl
 t61:=Tryz.underlying374
 a61:=Tryz.isAgg374
 z61:=Tryz.sizeOf374
 t65:=Tryz.underlying392
 a65:=Tryz.isAgg392
 z65:=Tryz.sizeOf392
 v65:=Tryz.zeroValue392
 i65:=by kernel_rfl
 t66:=Tryz.underlying393
 a66:=Tryz.isAgg393
 z66:=Tryz.sizeOf393
 v66:=Tryz.zeroValue393
 i66:=by kernel_rfl
 t67:=Tryz.underlying336
 a67:=Tryz.isAgg336
 z67:=Tryz.sizeOf336
 v67:=Tryz.zeroValue336
 i67:=by kernel_rfl
 g0:=by kernel_rfl
 m0:=by kernel_rfl
 g1:=by kernel_rfl
 m1:=by kernel_rfl
 g2:=by kernel_rfl
 m2:=by kernel_rfl
 g3:=by kernel_rfl
 m3:=by kernel_rfl
 g4:=by kernel_rfl
 m4:=by kernel_rfl}
open Go.RowKit in
theorem Tryz.strconv_ParseUint_10_at64_ok(s:ByteArray)(hmax:s.size<=9223372036854775806)(u:Nat)(h:Lib.parseUintB 64 s.data.toList=.ok u)(w:World) :
  Calls Tryz.prog 281 #[.string s,.int .i64 10,.int .i64 64] w fun e w'=>e=.returned (.tuple #[.int .u64 u,.nilIface])/\(w'=w∨w'=Lib.bytesWorld w 5 s):=Any.strconv_ParseUint_10_at64_ok Tryz.laysPu14 s hmax u h w
def Tryz.laysM145_ren:Go.Shelf.Ren:=⟨fun|145=>218|220=>276|219=>332|217=>268|225=>357|224=>358|267=>359|266=>326|314=>367|n=>n,fun|9=>9|4=>4|59=>273|3=>3|5=>5|46=>113|146=>390|51=>182|n=>n,fun|1=>0|n=>n⟩
theorem Tryz.laysM145:Go.Proofs.LaysM.n145 Tryz.prog Tryz.laysM145_ren:={
 mixed:=by kernel_rfl
 f145:=Tryz.func218.trans (congrArg some (by kernel_rfl))
 f217:=Tryz.func268.trans (congrArg some (by kernel_rfl))
 f219:=Tryz.func332.trans (congrArg some (by kernel_rfl))
 f220:=Tryz.func276.trans (congrArg some (by kernel_rfl))
 f224:=Tryz.func358.trans (congrArg some (by kernel_rfl))
 f225:=Tryz.func357.trans (congrArg some (by kernel_rfl))
 f266:=Tryz.func326.trans (congrArg some (by kernel_rfl))
 f267:=Tryz.func359.trans (congrArg some (by kernel_rfl))
 f314:=Tryz.func367.trans (congrArg some (by kernel_rfl))
 t3:=Tryz.underlying3
 a3:=Tryz.isAgg3
 z3:=Tryz.sizeOf3
 v3:=Tryz.zeroValue3
 t4:=Tryz.underlying4
 a4:=Tryz.isAgg4
 z4:=Tryz.sizeOf4
 v4:=Tryz.zeroValue4
 t5:=Tryz.underlying5
 a5:=Tryz.isAgg5
 z5:=Tryz.sizeOf5
 v5:=Tryz.zeroValue5
 t9:=Tryz.underlying9
 a9:=Tryz.isAgg9
 z9:=Tryz.sizeOf9
 v9:=Tryz.zeroValue9
 t46:=Tryz.underlying113
 a46:=Tryz.isAgg113
 z46:=Tryz.sizeOf113
 v46:=Tryz.zeroValue113
 t51:=Tryz.underlying182
 a51:=Tryz.isAgg182
 z51:=Tryz.sizeOf182
 v51:=Tryz.zeroValue182
 t59:=Tryz.underlying273
 a59:=Tryz.isAgg273
 z59:=Tryz.sizeOf273
 v59:=Tryz.zeroValue273
 t146:=Tryz.underlying390
 a146:=Tryz.isAgg390
 z146:=Tryz.sizeOf390
 v146:=Tryz.zeroValue390
 g1:=by kernel_rfl
 i3:=by kernel_rfl
 i4:=by kernel_rfl
 i5:=by kernel_rfl
 i9:=by kernel_rfl
 i46:=by kernel_rfl
 i51:=by kernel_rfl
 i59:=by kernel_rfl
 i146:=by kernel_rfl
 m1:=by kernel_rfl
 s1_3:=fun w h=>Go.Proofs.cell_of_shapedOpen_int (zero:=#[.int .i64 0]) (t:=3) h (of_decide_eq_true (by kernel_rfl)) (by kernel_rfl) rfl (by kernel_rfl) (by kernel_rfl) Tryz.underlying3}
open Go.RowKit Go.Lib in
theorem Tryz.strings_Cut_shaped(s sep:ByteArray)(w:World)(h:w.ShapedOpen Tryz.prog)(hs:s.size<4294967281) :
  Calls Tryz.prog 218 #[.string s,.string sep] w fun e w'=>e=.returned (.tuple #[.string ⟨(Lib.cut s.data.toList sep.data.toList).1.toArray⟩,.string ⟨(Lib.cut s.data.toList sep.data.toList).2.1.toArray⟩,.bool (Lib.cut s.data.toList sep.data.toList).2.2])/\∃n,w'=w.drewN n:=Any.strings_Cut_shaped Tryz.laysM145 s sep w h hs
def Tryz.lays99_ren:Go.Shelf.Ren:=⟨fun|99=>279|206=>337|n=>n,fun|9=>9|4=>4|3=>3|n=>n,fun|n=>n⟩
theorem Tryz.lays99:Go.Proofs.Lays.n99 Tryz.prog Tryz.lays99_ren:={
 mixed:=by kernel_rfl
 f99:=Tryz.func279.trans (congrArg some (by kernel_rfl))
 f206:=Tryz.func337.trans (congrArg some (by kernel_rfl))
 t3:=Tryz.underlying3
 a3:=Tryz.isAgg3
 z3:=Tryz.sizeOf3
 v3:=Tryz.zeroValue3
 t4:=Tryz.underlying4
 a4:=Tryz.isAgg4
 z4:=Tryz.sizeOf4
 v4:=Tryz.zeroValue4
 t9:=Tryz.underlying9
 a9:=Tryz.isAgg9
 z9:=Tryz.sizeOf9
 v9:=Tryz.zeroValue9}
open Go.RowKit Go.Lib in
theorem Tryz.strings_HasPrefix(s p:ByteArray)(w:World) :
  Calls Tryz.prog 279 #[.string s,.string p] w fun e w'=>e=.returned (.bool (Lib.hasPrefix s.data.toList p.data.toList))/\w'=w:=Any.strings_HasPrefix Tryz.lays99 s p w
def Tryz.lays101_ren:Go.Shelf.Ren:=⟨fun|101=>222|208=>280|206=>337|n=>n,fun|9=>9|4=>4|3=>3|n=>n,fun|n=>n⟩
theorem Tryz.lays101:Go.Proofs.Lays.n101 Tryz.prog Tryz.lays101_ren:={
 mixed:=by kernel_rfl
 f101:=Tryz.func222.trans (congrArg some (by kernel_rfl))
 f206:=Tryz.func337.trans (congrArg some (by kernel_rfl))
 f208:=Tryz.func280.trans (congrArg some (by kernel_rfl))
 t3:=Tryz.underlying3
 a3:=Tryz.isAgg3
 z3:=Tryz.sizeOf3
 v3:=Tryz.zeroValue3
 t4:=Tryz.underlying4
 a4:=Tryz.isAgg4
 z4:=Tryz.sizeOf4
 v4:=Tryz.zeroValue4
 t9:=Tryz.underlying9
 a9:=Tryz.isAgg9
 z9:=Tryz.sizeOf9
 v9:=Tryz.zeroValue9}
open Go.RowKit Go.Lib in
theorem Tryz.strings_TrimPrefix(s p:ByteArray)(w:World) :
  Calls Tryz.prog 222 #[.string s,.string p] w fun e w'=>e=.returned (.string ⟨(Lib.trimPrefix s.data.toList p.data.toList).toArray⟩)/\w'=w:=Any.strings_TrimPrefix Tryz.lays101 s p w
end Go.Proofs
namespace Kl
structure En where
 u:Bs
 s:Bs
 p:Int
 t:Bs
deriving DecidableEq
structure La where
 u:Bs
 mn:Bs
 mx:Bs
deriving DecidableEq
def C9(f:Nat)(b:UInt8):Bool:=decide (b.toNat<f)||decide (126<b.toNat)
def GR(b:UInt8):Bool:=(decide (97<=b.toNat)&&decide (b.toNat<=122))||(decide (65<=b.toNat)&&decide (b.toNat<=90))
def Kq(b:UInt8):Bool:=(decide (48<=b.toNat)&&decide (b.toNat<=57))||decide (b.toNat=95)
def nameB:Bs→Bool
 | []=>false
 | b::l=>decide (l.length < 32) && (GR b && l.all (fun c=>GR c || Kq c))
def CO{α:Type}(p:α→Bool)(l:List α):Int:=match l.findIdx? p with|some j=>(j:Int)|none=>-1
theorem eC{α:Type}{p:α→Bool}{l:List α}{j:Nat}(hj:j<l.length)(hno:∀q∈l.take j,p q=false)(h:p l[j]=true):CO p l=(j:Int):=by
 unfold CO
 have:l.findIdx? p=some j:=by rw [List.findIdx?_eq_some_iff_getElem];refine⟨hj,h,fun i hi=>?_⟩;rw [Bool.not_eq_true];refine hno l[i] ?_;rw [List.mem_take_iff_getElem];exact⟨i,by omega,rfl⟩
 rw [this]
theorem SL{α:Type}{p:α→Bool}{l:List α}(hno:∀q∈l,p q=false):CO p l = -1:=by
 unfold CO
 have:l.findIdx? p=none:=by rw [List.findIdx?_eq_none_iff];exact hno
 rw [this]
theorem zU{α:Type}(p:α→Bool)(l:List α):decide (0<=CO p l)=l.any p:=by
 unfold CO
 cases h:l.findIdx? p with
 | none=>
  rw [List.findIdx?_eq_none_iff]at h
  symm
  simp only [Int.reduceNeg,Int.reduceLE,decide_false,List.any_eq_false];intro x hx;rw [h x hx];simp
 | some j=>
  rw [List.findIdx?_eq_some_iff_getElem]at h;obtain⟨hj,h1,_⟩:=h;rw [decide_eq_true (by simp)]
  symm
  rw [List.any_eq_true];exact⟨_,List.getElem_mem hj,h1⟩
theorem AfH{α:Type}(p:α→Bool)(l:List α):-1<=CO p l:=by
 unfold CO
 split<;>omega
theorem AfI{α:Type}(p:α→Bool)(l:List α):CO p l<(l.length:Int):=by
 unfold CO
 split
 ·rename_i j h
  rw [List.findIdx?_eq_some_iff_getElem]at h;obtain⟨hj,_⟩:=h;omega
 ·omega
def GA(l:List En)(u:Bs):Int:=CO (fun e=>e.u == u) l
def C2(b:List En)(x:En):Int:=
 if nameB x.u=false then 8 else if 0<=GA b x.u then 9 else if x.s.length≠1 then 7 else if x.s.any (C9 33)=true then 7
 else if b.any (fun y=>y.s == x.s)=true then 9 else if x.p<1 then 12 else if 5<x.p then 12 else if 80<x.t.length then 16 else if x.t.any (C9 32)=true then 15 else 0
def I2(b:List En):List En→Int
 | []=>0
 | x::r=>if C2 b x=0 then I2 (b ++ [x]) r else C2 b x
def DN(l:List En):Int:=if 20<l.length then 4 else I2 [] l
theorem AaW{b:List En}{l:List En}{k:Nat}(h:k<l.length)(hb:b=l.take k):I2 b (l.drop k)=if C2 b l[k]=0 then I2 (l.take (k+1)) (l.drop (k+1))else C2 b l[k]:=by
 rw [List.drop_eq_getElem_cons h,hb,List.take_succ_eq_append_getElem h]
 rfl
structure Jj(e:En):Prop where
 nm:nameB e.u=true
 one:e.s.length=1
 sy:e.s.any (C9 33)=false
 lo:1<=e.p
 hi:e.p<=5
 ln:e.t.length<=80
 tx:e.t.any (C9 32)=false
theorem Ace{b:List En}{x:En}(h:Jj x)(hb:∀y∈b,y.u≠x.u/\y.s≠x.s):C2 b x=0:=by
 have h1:GA b x.u = -1:=SL fun q hq=>(by simpa using (hb q hq).1);have h2:b.any (fun y=>y.s == x.s)=false:=List.any_eq_false.2 fun q hq=>(by simpa using (hb q hq).2);have:=h.nm;have h3:=h.one;have h4:=h.lo;have h5:=h.hi;have h6:=h.ln;unfold C2;rw [h.nm,h1,h.sy,h.tx,h2,if_neg (by simp),if_neg (by omega),if_neg (by omega),if_neg (by simp),if_neg (by simp),if_neg (by omega),if_neg (by omega),if_neg (by omega),if_neg (by simp)]
def Oj(x y:En):Prop:=x.u≠y.u/\x.s≠y.s
theorem oI:∀(l b:List En),(∀e∈l,Jj e)→(b++l).Pairwise Oj→I2 b l=0
 | [],_,_,_=>rfl
 | x::l,b,hg,hp=>by have h1:C2 b x=0:=Ace (hg x (by simp)) fun y hy=>(List.pairwise_append.1 hp).2.2 y hy x (by simp);show (if C2 b x=0 then I2 (b ++ [x]) l else C2 b x)=0;rw [if_pos h1];exact oI l _ (fun e he=>hg e (List.mem_cons_of_mem _ he)) (by rw [List.append_assoc];exact hp)
theorem AaV{l:List En}(hl:l.length<=20)(hg:∀e∈l,Jj e)(hp:l.Pairwise Oj):DN l=0:=by
 unfold DN;rw [if_neg (by omega)];exact oI l [] hg hp
theorem Acf{b:List En}{x:En}(h:C2 b x=0):1<=x.p/\x.p<=5:=by
 unfold C2 at h
 split at h<;>(try split at h)<;>(try split at h)<;>(try split at h)<;>(try split at h)<;>(try split at h)<;>(try split at h)<;>omega
theorem oJ:∀(l b:List En),I2 b l=0→∀e∈l,1<=e.p/\e.p<=5
 | [],_,_=>by simp
 | x::l,b,h=>by
  unfold I2 at h;by_cases h0:C2 b x=0
  ·rw [if_pos h0]at h;intro e he
   rcases List.mem_cons.1 he with rfl|he
   ·exact Acf h0
   ·exact oJ l _ h e he
  ·rw [if_neg h0]at h;exact absurd h h0
theorem oG{l:List En}(h:DN l=0):l.length<=20:=by
 unfold DN at h
 split at h<;>omega
theorem oH{l:List En}(h:DN l=0):∀e∈l,1<=e.p/\e.p<=5:=by
 have hl:=oG h;unfold DN at h;rw [if_neg (by omega)]at h;exact oJ l [] h
def GT(p:Int):Bs:=if p=1 then "plain".toUTF8.data.toList else if p=2 then "dots".toUTF8.data.toList else if p=3 then "dashes".toUTF8.data.toList else if p=4 then "bricks".toUTF8.data.toList else "crosses".toUTF8.data.toList
def Ci(x:En):Bs:=x.s ++ [32]++x.u ++ [32]++GT x.p++(if x.t = [] then [] else [58,32]++x.t)
def BD(c:List La)(u:Bs):Int:=CO (fun x=>x.u == u) c
def I3(x y:Int):Int:=if x<y then -1 else if y<x then 1 else 0
structure Dr where
 u:UInt8
 s:UInt8
 p:UInt8
 t:UInt8
def MG:List Bs:=[[65],[66],[67],[68],[69],[70],[97],[98],[99],[100],[120],[121]]
def Oh:List Bs:=[[],[115,97,110,100],[97,32,98],[49,47,50,32,116,111,32,51]]
def ER(x:Dr):En:=⟨MG.getD (x.u.toNat%12) [],[33+x.s%90],1+((x.p.toNat%5:Nat):Int),Oh.getD (x.t.toNat%4) []⟩
def Fp(out:List En)(x:Dr):List En:=if out.any (fun y=>y.u == (ER x).u||y.s == (ER x).s)=true then out else out ++ [ER x]
def IT(d:List Dr):List En:=(d.take 8).foldl Fp []
theorem Ahd:∀k,k<12→nameB (MG.getD k [])=true:=by decide +kernel
theorem ow:∀k,k<4→(Oh.getD k []).length<=80/\(Oh.getD k []).any (C9 32)=false:=by decide +kernel
theorem Akn(b:UInt8):[33+b%90].any (C9 33)=false:=by
 have h1:(b%90).toNat<90:=by rw [UInt8.toNat_mod];exact Nat.mod_lt _ (by decide)
 have h2:(33+b%90).toNat=33+(b%90).toNat:=by rw [UInt8.toNat_add];exact Nat.mod_eq_of_lt (by show 33+(b%90).toNat<256;omega)
 simp only [List.any_cons,List.any_nil,Bool.or_false];unfold C9;rw [h2,decide_eq_false (by omega),decide_eq_false (by omega)]
 rfl
theorem AgJ(x:Dr):Jj (ER x):=
 ⟨Ahd _ (Nat.mod_lt _ (by decide)),rfl,Akn _,by show 1<=1+((x.p.toNat%5:Nat):Int);omega,by show 1+((x.p.toNat%5:Nat):Int)<=5;omega,(ow _ (Nat.mod_lt _ (by decide))).1,(ow _ (Nat.mod_lt _ (by decide))).2⟩
theorem AgM{out:List En}(x:Dr)(hg:∀e∈out,Jj e)(hp:out.Pairwise Oj):(∀e∈Fp out x,Jj e)/\(Fp out x).Pairwise Oj/\(Fp out x).length<=out.length+1:=by
 unfold Fp
 split
 ·exact⟨hg,hp,by omega⟩
 ·rename_i h
  rw [Bool.not_eq_true,List.any_eq_false]at h;refine⟨fun e he=>?_,List.pairwise_append.2 ⟨hp,by simp,fun a ha b hb=>?_⟩,by simp⟩
  ·rcases List.mem_append.1 he with h|h
   ·exact hg e h
   ·rw [List.mem_singleton.1 h];exact AgJ x
  ·rw [List.mem_singleton.1 hb];have:=h a ha;simp only [Bool.or_eq_true,beq_iff_eq,not_or]at this;exact this
theorem eV:∀(d:List Dr) (out:List En),(∀e∈out,Jj e)→out.Pairwise Oj→(∀e∈d.foldl Fp out,Jj e)/\(d.foldl Fp out).Pairwise Oj/\(d.foldl Fp out).length<=out.length+d.length
 | [],_,hg,hp=>⟨hg,hp,by simp⟩
 | x::d,out,hg,hp=>by obtain⟨h1,h2,h3⟩:=AgM x hg hp;have h:=eV d _ h1 h2;exact⟨h.1,h.2.1,by have:=h.2.2;simp only [List.foldl_cons,List.length_cons];omega⟩
theorem AgL(d:List Dr):DN (IT d)=0/\(IT d).length<=8:=by
 obtain⟨h1,h2,h3⟩:=eV (d.take 8) [] (by simp) List.Pairwise.nil
 have h4:(IT d).length<=8:=by have:(d.take 8).length<=8:=(by simp;omega);have h5:([]:List En).length=0:=rfl;unfold IT;omega
 exact⟨AaV (by omega) h1 h2,h4⟩
end Kl
namespace Go.Proofs.YtjalkoacphhgdaaGreatDoor
open Go.RowKit Kl
def Aja{α:Type} : Result α→World
 | .ok _ w=>w
 | .halt _ w=>w
theorem Aaf{α:Type}(a:Ask α):∀(w:World),w.drawn<=(w.ask a).2.drawn:=by
 induction a with
 | done a=>intro w;exact Ano _
 | ask what range k ih=>
  intro w;unfold World.ask;simp only []
  split
  ·exact ih _ _
  ·exact Anz (Nat.le_succ w.drawn) (ih _ {w with drawn:=w.drawn+1})
theorem Ako(w:World)(c:Sys):w.drawn<=(w.sys c).2.drawn:=by
 have h:=Aaf (Kernel.perform c w.os) w;unfold World.sys
 split
 ·exact Ano _
 ·rename_i r os w' _ he
  rw [he]at h;exact h
theorem Acw{ε α β:Type}{x:Except ε α}{f:α→Except ε β}{y:β}(h:(x >>= f)=.ok y):∃a,x=.ok a/\f a=.ok y:=by
 cases x with
 | error e=>cases h
 | ok a=>exact⟨a,rfl,h⟩
theorem AkH{p:Program}{w w':World}{a:Addr}{u:TypeId}{k:Addr}{v:Value}{at_:Bool}{l:List Addr}(h:w.viewStore p a u k v at_=.ok (w',l)):w'.drawn=w.drawn:=by
 unfold World.viewStore at h;simp only []at h
 repeat' first
  | (cases h;done)
  | (simp only [pure,Except.pure,Except.ok.injEq,Prod.mk.injEq]at h;obtain⟨rfl,_⟩:=h;rfl)
  | (obtain⟨_,_,h⟩:=Acw h)
  | split at h
theorem Ac0{p:Program}{w w':World}{a:Addr}{v:Value}{at_:Bool}{l:List Addr}(h:w.farStore p a v at_=.ok (w',l)):w'.drawn=w.drawn:=by
 unfold World.farStore at h
 split at h
 ·split at h
  ·rename_i hv;simp only [Except.ok.injEq]at h;subst h;exact AkH hv
  ·cases h
 ·cases h
theorem lh (p : Program) {α : Type} (s : Sem α) : ∀ (w : World), w.drawn ≤ (Aja (s.run p w)).drawn := by
  induction s with
  | pure a => intro w; exact Ano _
  | load m a k ih => intro w; simp only [Sem.run]; (repeat' split) <;> first | exact ih _ _ | exact Ano _
  | store m a v k ih =>
    intro w
    cases v <;> simp only [Sem.run] <;> first
      | exact Ano _
      | (split
         · split
           · exact Ano _
           · exact ih (w.setCell a _)
         · split
           · rename_i hf; rw [← Ac0 hf]; exact ih _
           · exact Ano _)
  | new o k ih => intro w; simp only [Sem.run]; exact ih w.heap.size { w with heap := w.heap.push o }
  | shape r k ih => intro w; simp only [Sem.run]; exact ih _ _
  | freeze a n k ih =>
    intro w; simp only [Sem.run]
    refine Anz (Nat.le_of_eq ?_) (ih (w.freeze a n))
    unfold World.freeze; split <;> rfl
  | frozen a k ih => intro w; simp only [Sem.run]; exact ih _ _
  | getObj r k ih => intro w; simp only [Sem.run]; split <;> first | exact ih _ _ | exact Ano _
  | setObj r o k ih => intro w; simp only [Sem.run]; split <;> first | exact ih { w with heap := w.heap.setIfInBounds r o } | exact Ano _
  | choose q k ih => intro w; simp only [Sem.run]; split <;> first | exact ih _ _ | exact Anz (Nat.le_succ w.drawn) (ih _ { w with drawn := w.drawn + 1 })
  | sys c k ih => intro w; simp only [Sem.run]; exact Anz (Ako w c) (ih _ _)
  | program k ih => intro w; simp only [Sem.run]; exact ih _ _
  | mark m k ih => intro w; simp only [Sem.run]; exact ih _
  | halt h => intro w; exact Ano _
theorem Gx{p:Program}{α:Type}{s:Sem α}{w w':World}{a:α}(h:s.run p w=.ok a w'):w.drawn<=w'.drawn:=by
 have:=lh p s w;rw [h]at this;exact this
theorem WZ{p:Program}{α:Type}{s:Sem α}{w w':World}{a:Halt}(h:s.run p w=.halt a w'):w.drawn<=w'.drawn:=by
 have:=lh p s w;rw [h]at this;exact this
theorem Tp{p:Program}{α:Type}{s:Sem α}{w w':World}{a:α}{es es':Array Event}(h:s.runT p w es=(.ok a w',es')):w.drawn<=w'.drawn:=by
 have e:=Sem.runT_fst p s w es;rw [h]at e;exact Gx e.symm
theorem iL{p:Program}{α:Type}{s:Sem α}{w w':World}{a:Halt}{es es':Array Event}(h:s.runT p w es=(.halt a w',es')):w.drawn<=w'.drawn:=by
 have e:=Sem.runT_fst p s w es;rw [h]at e;exact WZ e.symm
theorem WY{p:Program}{α:Type}{s:Sem α}{w w':World}{a:α}{es:Array Event}(h:(s.runT p w es).1=.ok a w'):w.drawn<=w'.drawn:=Gx ((Sem.runT_fst p s w es).symm.trans h)
theorem lc{p:Program}{α:Type}{s:Sem α}{w w':World}{a:Halt}{es:Array Event}(h:(s.runT p w es).1=.halt a w'):w.drawn<=w'.drawn:=WZ ((Sem.runT_fst p s w es).symm.trans h)
def Cy(w:World):GStep→Prop
 | .go _ w' _=>w.drawn<=w'.drawn
 | .comm _ _ _ _ w' _=>w.drawn<=w'.drawn
 | .spawn _ _ w' _=>w.drawn<=w'.drawn
 | .count _ w' _=>w.drawn<=w'.drawn
 | .timer _ _ w' _=>w.drawn<=w'.drawn
 | .alone _ _ w' _=>w.drawn<=w'.drawn
 | .newcoro _ _ _ w' _=>w.drawn<=w'.drawn
 | .coroswitch _ _ _ w' _=>w.drawn<=w'.drawn
 | .collect _ w' _=>w.drawn<=w'.drawn
 | .watch _ w' _=>w.drawn<=w'.drawn
 | .ended _ _ _=>True
theorem JG{w:World}{es:Array Event}{g:GStep}(h:Cy w g):Cy w (GStep.after es g):=by cases g<;>exact h
theorem FU{w w':World}{g:GStep}(h:w.drawn<=w'.drawn)(k:Cy w' g):Cy w g:=by
 cases g<;>first|exact Anz h k|trivial
theorem Ahx(fr:Frame)(l:List ByteArray)(m:String)(b:Bool)(w:World):Cy w (dieOf fr l m b w):=Ano _
theorem WF(fr:Frame)(m:String)(w:World):Cy w (endThrow fr m w):=Ano _
theorem Ahy(w:World)(fd:Nat)(t:ByteArray)(o:Outcome):Cy w (endWith w fd t o):=by
 unfold endWith;simp only []
 repeat' first
  | trivial
  | split
theorem fR(p:Program)(fr:Frame)(v:Value)(w:World):Cy w (endPrinting p fr v w):=by
 unfold endPrinting;simp only []
 repeat' first
  | trivial
  | exact WF _ _ _
  | split
theorem ig(p:Program)(fr:Frame)(cs:List Frame)(d:Option Dying)(m:String)(w:World):Cy w (endFatal p fr cs d m w):=by
 unfold endFatal;simp only []
 repeat' first
  | trivial
  | (rename_i h;exact FU (Gx h) (Ahx _ _ _ _ _))
  | split
theorem Ah4(p:Program)(fr:Frame)(d:Dying)(f:Fatal)(w:World):Cy w (writeOn p fr d f w):=by
 unfold writeOn;simp only []
 repeat' first
  | trivial
  | (rename_i h;exact Tp h)
  | (rename_i h;exact iL h)
  | split
theorem Ahw(p:Program)(fr:Frame)(d:Dying)(w:World):Cy w (die p fr d w):=by
 unfold die;simp only []
 repeat' first
  | trivial
  | exact Ah4 _ _ _ _ _
  | exact Ahy _ _ _ _
  | exact Ano _
  | (rename_i h;exact Gx h)
  | (rename_i h;exact Tp h)
  | (rename_i h;exact FU (iL h) (fR _ _ _ _))
  | (rename_i h;exact JG (WY h))
  | (rename_i h;exact JG (FU (lc h) (fR _ _ _ _)))
  | split
theorem Ah0{w:World}{c:Prop}[Decidable c]{a b:GStep}(ha:Cy w a)(hb:Cy w b):Cy w (if c then a else b):=by split<;>assumption
theorem fS(p:Program)(b:Bool)(fr:Frame)(cs:List Frame)(d:Option Dying)(v:Value)(w:World):Cy w (doReturn p b fr cs d v w):=by
 unfold doReturn;simp only []
 repeat' first
  | trivial
  | exact Ano _
  | split
theorem Ahv(p:Program)(fr:Frame)(cs:List Frame)(dy:Option Dying)(d:Deferred)(w:World):Cy w (callDeferred p fr cs dy d w):=by
 unfold callDeferred;refine Ah0 trivial ?_
 ·generalize hx:(invoke d.target d.args).runT p w #[]=x;obtain⟨r,es⟩:=x;simp only [];refine JG ?_
  cases r with
  | ok a w'=>
   have hd:=Tp hx
   cases a<;>(try simp only [])<;>repeat' first
    | trivial
    | exact hd
    | (injections;done)
    | (injections;subst_vars;exact hd)
    | split
  | halt h w'=>
   have hd:=iL hx
   cases h<;>(try simp only [])<;>repeat' first
    | trivial
    | exact hd
    | (injections;done)
    | (injections;subst_vars;exact hd)
    | exact FU hd (ig _ _ _ _ _ _)
    | exact FU hd (WF _ _ _)
    | split
theorem fQ(p:Program)(fr:Frame)(cs:List Frame)(d:Option Dying)(g:Nat)(w:World):Cy w (early p fr cs d g w):=by
 unfold early;simp only []
 repeat' first
  | trivial
  | exact Ano _
  | (refine FU (Gx (by assumption)) ?_)
  | split
theorem Ah3 (p : Program) (b : Bool) (fr : Frame) (cs : List Frame) (d : Option Dying) (w : World) : Cy w (unwind p b fr cs d w) := by
  unfold unwind
  split
  · generalize hx : (Instr.takeDeferred _).runT p w #[] = x
    obtain ⟨r, es⟩ := x
    simp only []
    refine JG ?_
    cases r with
    | ok a w' => exact Tp hx
    | halt h w' => trivial
  · exact Ahv _ _ _ _ _ _
  · repeat' first
      | trivial
      | exact Ano _
      | (rename_i h; exact Gx h)
      | exact fR _ _ _ _
      | exact fS _ _ _ _ _ _ _
      | (generalize hx : (results _ _).runT p w #[] = x
         obtain ⟨r, es⟩ := x
         simp only []
         refine JG ?_
         cases r with
         | ok a w' => exact FU (Tp hx) (fS _ _ _ _ _ _ _)
         | halt h w' => cases h <;> trivial)
      | split
theorem WE(p:Program)(b:Bool)(fr:Frame)(cs:List Frame)(d:Option Dying)(s:Sem Next)(w:World):Cy w (stepG.apply p b fr cs d s w):=by
 unfold stepG.apply
 have hr:(if b=true then s.runT p w #[] else (s.run p w,#[])).1=s.run p w:=by
  split
  ·exact Sem.runT_fst p s w #[]
  ·rfl
 generalize hx:(if b=true then s.runT p w #[] else (s.run p w,#[]))=x at hr;obtain⟨r,es⟩:=x;simp only []at hr;simp only [];refine JG ?_
 cases r with
 | ok a w'=>
  have hd:=Gx hr.symm
  cases a<;>(try simp only [])<;>repeat' first
   | trivial
   | exact hd
   | (injections;done)
   | (injections;subst_vars;exact hd)
   | (injections;subst_vars;exact FU hd (fQ _ _ _ _ _ _))
   | exact FU hd (WF _ _ _)
   | split
 | halt h w'=>
  have hd:=WZ hr.symm
  cases h<;>(try simp only [])<;>repeat' first
   | trivial
   | exact hd
   | (injections;done)
   | (injections;subst_vars;exact hd)
   | (injections;subst_vars;exact FU hd (fQ _ _ _ _ _ _))
   | exact FU hd (ig _ _ _ _ _ _)
   | exact FU hd (WF _ _ _)
   | exact FU hd (fQ _ _ _ _ _ _)
   | split
theorem Ah1(p:Program)(b:Bool)(fr:Frame)(cs:List Frame)(d:Option Dying)(w:World):Cy w (stepG.oper p b fr cs d w):=by
 unfold stepG.oper
 split
 ·trivial
 ·split<;>exact WE _ _ _ _ _ _ _
theorem ic{α:Type}{w:World}(o:Option α)(a:GStep)(f:α→GStep)(ha:Cy w a)(h:∀x,Cy w (f x)):Cy w (o.elim a f):=by
 cases o
 ·exact ha
 ·exact h _
theorem Ahz(p:Program)(m b:Bool)(fr:Frame)(cs:List Frame)(d:Option Dying)(w:World):Cy w (stepG.exec p m b fr cs d w):=by
 unfold stepG.exec;simp only []
 split
 all_goals repeat' first
  | trivial
  | exact Ano _
  | exact Ah1 _ _ _ _ _ _
  | exact WE _ _ _ _ _ _ _
  | (rename_i h;exact Gx h)
  | refine ic _ _ _ ?_ (fun _=>Ano _)
  | exact ic _ _ _ trivial (fun _=>WE _ _ _ _ _ _ _)
  | (rename_i h;exact JG (FU (WY h) (fS _ _ _ _ _ _ _)))
  | (rename_i h;exact JG (FU (WY h) (WE _ _ _ _ _ _ _)))
  | (rename_i h;exact JG (WY h))
  | (rename_i h;exact JG (lc h))
  | split
theorem Ah2(p:Program)(m:Bool)(g:Goroutine)(w:World)(b:Bool):Cy w (stepG p m g w b):=by
 obtain⟨fr,callers,status,dying,offers⟩:=g;simp only [stepG]
 split
 ·exact Ahw _ _ _ _
 ·exact Ahz _ _ _ _ _ _ _
 ·exact Ah3 _ _ _ _ _ _
/-! ### The machine -/
def MI(w:World):Stepped→Prop
 | .next m=>w.drawn<=m.world.drawn
 | .ended _ _=>True
theorem Oa{w w':World}{g:Stepped}(h:w.drawn<=w'.drawn)(k:MI w' g):MI w g:=by
 cases g<;>first|exact Anz h k|trivial
def Tc(w:World):Move→Prop
 | .goroutine m _=>w.drawn<=m.world.drawn
 | .machine s _=>MI w s
theorem Td{w w':World}{g:Move}(h:w.drawn<=w'.drawn)(k:Tc w' g):Tc w g:=by
 cases g
 ·exact Anz h k
 ·exact Oa h k
theorem AkI{rest:Rest}{cases:Array CommCase}{w w':World}(h:waitingAt rest cases w=some w'):w'.drawn=w.drawn:=by
 unfold waitingAt at h
 repeat' first
  | (cases h;done)
  | (simp only [Ans]at h;subst h;rfl)
  | split at h
theorem Ah7(p:Program)(rest:Rest)(gs:Array Goroutine)(i:Nat)(g:Goroutine)(cases:Array CommCase)(b:Bool)(shape:CommShape)(w:World):MI w (communicate p rest gs i g cases b shape w).1:=by
 unfold communicate;simp only []
 repeat' first
  | trivial
  | exact Ano _
  | (refine Oa (Gx (by assumption)) ?_)
  | (refine Oa (WZ (by assumption)) ?_)
  | (rename_i h;exact Nat.le_of_eq (AkI h).symm)
  | split
theorem ij(p:Program)(gs:Array Goroutine)(rest:Rest)(w:World):MI w (look p gs rest w):=by
 unfold look;simp only []
 repeat' first
  | trivial
  | exact Ano _
  | (refine Oa (Gx (by assumption)) ?_)
  | split
theorem Ah9(p:Program)(m:Machine)(k:Nat):MI m.world (serve p m k):=by
 unfold serve;simp only []
 repeat' first
  | trivial
  | exact Ano _
  | split
theorem Akw{m m':Machine}{op:TimerOp}{v:Value}(h:timerOp m op=.ok (v,m')):m'.world.drawn=m.world.drawn:=by
 have hd:∀(w:World) (c:Nat),(drain w c).2.drawn=w.drawn:=by intro w c;unfold drain;split<;>rfl
 have hr:∀(m:Machine) (k:Nat) (t:Timer) (a b:Nat),(retime m k t a b).2.world.drawn=m.world.drawn:=by
  intro m k t a b;unfold retime
  cases t.chan with
  | none=>rfl
  | some c=>exact hd _ _
 have hn:∀(m m0:Machine) (var:Addr) (f:Nat→Timer→Value×Machine),(∀k t,(f k t).2.world.drawn=m0.world.drawn)→∀{v m'},timerOp.named m var f=.ok (v,m')→m'.world.drawn=m0.world.drawn:=by
  intro m m0 var f hf v m' h;unfold timerOp.named at h
  split at h
  ·simp only [Except.ok.injEq]at h;have:=hf (by assumption) (m.rest.timers.getD (by assumption) default);rw [h]at this;exact this
  ·cases h
 have ho:∀{m m':Machine} {var:Addr},timerOp.opened m var=some m'→m'.world.drawn=m.world.drawn:=by
  intro m m' var h;unfold timerOp.opened at h
  repeat' first
   | (cases h;done)
   | (simp only [Ans]at h;subst h;rfl)
   | split at h
 unfold timerOp at h;simp only []at h
 repeat' first
  | (cases h;done)
  | (simp only [Except.ok.injEq,Prod.mk.injEq]at h;obtain⟨_,rfl⟩:=h;rfl)
  | exact hn _ _ _ _ (fun k t=>hr _ _ _ _ _) h
  | (rename_i h1;exact(hn _ _ _ _ (fun k t=>hr _ _ _ _ _) h).trans (ho h1))
  | split at h
theorem Ah8(p:Program)(m:Machine)(i:Nat)(b:Bool):MI m.world (runT p m i b).1:=by
 simp only [runT];generalize m.gs.swapAt! _ _=gg;have hs:=Ah2 p (i == 0) gg.1 m.world b
 revert hs
 generalize stepG p _ gg.1 m.world b=s;intro hs
 cases s<;>simp only [Cy]at hs<;>(try simp only [])
 all_goals repeat' first
  | trivial
  | exact hs
  | exact Oa hs (Ah7 _ _ _ _ _ _ _ _ _)
  | exact Oa hs (ij _ _ _ _)
  | (rename_i h;exact Anz hs (Nat.le_of_eq (Akw h).symm))
  | split
theorem yw{p:Program}{α:Type}{s:Sem α}{W w':World}{gs:Array Goroutine}{rest:Rest}{t:Nat}{a:α}(h:s.run p (Machine.advanceTo ⟨W,gs,rest⟩ t).world=.ok a w'):W.drawn<=w'.drawn:=by have:=Gx h;exact this
theorem fU(p:Program)(m:Machine):Tc m.world (askOn p m):=by
 unfold askOn;simp only []
 repeat' first
  | trivial
  | exact Ano _
  | exact Ah9 _ _ _
  | (refine Td (Gx (by assumption)) ?_)
  | (refine Td (yw (by assumption)) ?_)
  | split
theorem ii(p:Program)(m:Machine):Tc m.world (ask p m):=by
 unfold ask
 split
 ·split
  ·trivial
  ·refine Td (Gx (by assumption)) ?_;have:=ij p m.gs m.rest (by assumption)
   split
   ·rename_i h;rw [h]at this;exact Td this (fU _ _)
   ·rename_i e _;cases e<;>first|exact absurd rfl (by assumption)|trivial
  ·exact Td (Gx (by assumption)) (fU _ _)
 ·exact fU _ _
theorem Ah5(p:Program)(m:Machine):Tc m.world (move p m):=by
 unfold move
 repeat' first
  | trivial
  | exact Ano _
  | exact ii p _
  | exact ii p {m with rest:={m.rest with slice:=none}}
  | split
theorem AhA(p:Program)(m:Machine):MI m.world (step p m):=by
 have hm:=Ah5 p m;unfold step stepT
 cases h:move p m with
 | goroutine m1 i=>rw [h]at hm;exact Oa hm (Ah8 p m1 i true)
 | machine s ops=>rw [h]at hm;exact hm
theorem kz(p:Program):∀(n:Nat) (m m':Machine),runN p n m=.next m'→m.world.drawn<=m'.world.drawn
 | 0,m,m',h=>by simp only [runN,Stepped.next.injEq]at h;rw [h];exact Ano _
 | n+1,m,m',h=>by
  have hs:=AhA p m;unfold runN at h
  cases h1:step p m with
  | next m1=>rw [h1]at h hs;exact Anz hs (kz p n m1 m' h)
  | ended o w=>rw [h1]at h;cases h
theorem Steps.drawn{P:Program}{m m':Machine}(h:Steps P m m'):m.world.drawn<=m'.world.drawn:=by
 obtain⟨n,hn⟩:=h;exact kz P n m m' hn
theorem Calls.drawn{P:Program}{f:FuncId}{args:Array Value}{w:World}{R:Ending→World→Prop}(h:Calls P f args w R)(hr:∀e w',R e w'→∃v,e=.returned v):Calls P f args w fun e w'=>R e w'/\w.drawn<=w'.drawn:=by
 intro cs;obtain⟨e,w',fr,h1,h2,h3⟩:=h cs;obtain⟨v,rfl⟩:=hr e w' h1;exact⟨_,w',fr,⟨h1,Steps.drawn h2⟩,h2,h3⟩
theorem Aa.grow{w w':World}(h:Aa w w')(hd:w.drawn<=w'.drawn):∃q os,w'=Go.Sort.grow (w.drewN q) os:=by
 refine⟨w'.drawn-w.drawn,w'.heap.extract w.heap.size w'.heap.size,?_⟩
 have hh:w.heap++w'.heap.extract w.heap.size w'.heap.size=w'.heap:=by
  apply Array.ext_getElem?;intro i;rw [Array.getElem?_append]
  split
  ·rename_i hi;exact(h.block i hi).symm
  ·rename_i hi
   rw [Array.getElem?_extract]
   split
   ·congr 1;omega
   ·rw [Array.getElem?_eq_none (by omega)]
 have h1:=h.os;have h2:=h.tape;have h3:=h.output;unfold Go.Sort.grow World.drewN;simp only;rw [hh,Nat.add_sub_of_le hd,←h1,←h2,←h3]
end Go.Proofs.YtjalkoacphhgdaaGreatDoor
