/- X03: Shelf LGJ1 RQ RQ2. -/
import Derived.Shelf.Small.Strs
import Derived.Shelf.Small.Wraps
import Derived.Shelf.Strconv.Itoa3
import Derived.Shelf.Strconv.ErrVar
import Derived.Shelf.Strconv.ErrVarAll
import Derived.Shelf.Strconv.ParseInt10All
import Derived.Shelf.Pu.ErrVarParseUint
import Derived.Shelf.Strings.Shaped
import Derived.Shelf.Strings.BuilderCap
import Derived.Shelf.Slices.Clone
import Derived.Shelf.Slices.SearchI
import Derived.Shelf.Slices.Cells
import Derived.Shelf.SlicesE.Clone
import Derived.Shelf.SlSortCmp.Whole1
import Derived.Test.YtjalkoacphhgdaaGreatDoorRows
import Derived.ProofKit
import Derived.SevenTiedAt
import Derived.Test.YtjalkoacphhgdaaGreatDoorX02
set_option maxRecDepth 100000
set_option maxHeartbeats 4000000
namespace Go.Proofs
open Go.Shelf
def Tryz.lays169_ren:Go.Shelf.Ren:=⟨fun|169=>287|n=>n,fun|70=>328|9=>9|0=>0|72=>330|37=>52|127=>367|3=>3|5=>5|n=>n,fun|n=>n⟩
theorem Tryz.lays169:Go.Proofs.Lays.n169 Tryz.prog Tryz.lays169_ren:={
 mixed:=by kernel_rfl
 f169:=Tryz.func287.trans (congrArg some (by kernel_rfl))
 t0:=Tryz.underlying0
 a0:=Tryz.isAgg0
 z0:=Tryz.sizeOf0
 v0:=Tryz.zeroValue0
 t3:=Tryz.underlying3
 a3:=Tryz.isAgg3
 z3:=Tryz.sizeOf3
 v3:=Tryz.zeroValue3
 t9:=Tryz.underlying9
 a9:=Tryz.isAgg9
 z9:=Tryz.sizeOf9
 v9:=Tryz.zeroValue9
 t37:=Tryz.underlying52
 a37:=Tryz.isAgg52
 z37:=Tryz.sizeOf52
 v37:=Tryz.zeroValue52
 t70:=Tryz.underlying328
 a70:=Tryz.isAgg328
 z70:=Tryz.sizeOf328
 v70:=Tryz.zeroValue328
 t72:=Tryz.underlying330
 a72:=Tryz.isAgg330
 z72:=Tryz.sizeOf330
 v72:=Tryz.zeroValue330
 t127:=Tryz.underlying367
 a127:=Tryz.isAgg367
 z127:=Tryz.sizeOf367
 v127:=Tryz.zeroValue367}
theorem Tryz.Builder_Extra_169:Builder.Extra Tryz.prog Tryz.lays169_ren:={
 sizeBuilder:=by kernel_rfl
 liesBuilder:=by kernel_rfl
 t5:=Tryz.underlying5
 a5:=Tryz.isAgg5
 z5:=Tryz.sizeOf5
 v5:=Tryz.zeroValue5
 infoByte:=by kernel_rfl
 cellsByte:=by kernel_rfl
 sizeByte:=by kernel_rfl
 neB5:=by decide}
def Tryz.lays106_ren:Go.Shelf.Ren:=⟨fun|106=>100|213=>178|265=>255|n=>n,fun|9=>9|3=>3|n=>n,fun|n=>n⟩
theorem Tryz.lays106:Go.Proofs.Lays.n106 Tryz.prog Tryz.lays106_ren:={
 mixed:=by kernel_rfl
 f106:=Tryz.func100.trans (congrArg some (by kernel_rfl))
 f213:=Tryz.func178.trans (congrArg some (by kernel_rfl))
 f265:=Tryz.func255.trans (congrArg some (by kernel_rfl))
 t3:=Tryz.underlying3
 a3:=Tryz.isAgg3
 z3:=Tryz.sizeOf3
 v3:=Tryz.zeroValue3
 t9:=Tryz.underlying9
 a9:=Tryz.isAgg9
 z9:=Tryz.sizeOf9
 v9:=Tryz.zeroValue9}
open Go.RowKit in
theorem Tryz.strings_Compare(a b:ByteArray)(w:World) :
  Calls Tryz.prog 100 #[.string a,.string b] w fun e w'=>e=.returned (.int .i64 (Lib.compareBytes a.data.toList b.data.toList))/\w'=w:=Any.strings_Compare Tryz.lays106 a b w
def Tryz.lays103_ren:Go.Shelf.Ren:=⟨fun|103=>277|210=>333|206=>337|n=>n,fun|9=>9|4=>4|24=>321|3=>3|n=>n,fun|n=>n⟩
theorem Tryz.lays103:Go.Proofs.Lays.n103 Tryz.prog Tryz.lays103_ren:={
 mixed:=by kernel_rfl
 f103:=Tryz.func277.trans (congrArg some (by kernel_rfl))
 f206:=Tryz.func337.trans (congrArg some (by kernel_rfl))
 f210:=Tryz.func333.trans (congrArg some (by kernel_rfl))
 t3:=Tryz.underlying3
 a3:=Tryz.isAgg3
 z3:=Tryz.sizeOf3
 v3:=Tryz.zeroValue3
 t4:=Tryz.underlying4
 a4:=Tryz.isAgg4
 z4:=Tryz.sizeOf4
 v4:=Tryz.zeroValue4
 t9:=Tryz.underlying9
 a9:=Tryz.isAgg9
 z9:=Tryz.sizeOf9
 v9:=Tryz.zeroValue9
 t24:=Tryz.underlying321
 a24:=Tryz.isAgg321
 z24:=Tryz.sizeOf321
 v24:=Tryz.zeroValue321}
open Go.RowKit in
theorem Tryz.strings_CutPrefix(s p:ByteArray)(w:World) :
  Calls Tryz.prog 277 #[.string s,.string p] w fun e w'=>e=.returned (.tuple #[.string ⟨(Lib.trimPrefix s.data.toList p.data.toList).toArray⟩,.bool (Lib.hasPrefix s.data.toList p.data.toList)])/\w'=w:=Any.strings_CutPrefix Tryz.lays103 s p w
open Go.RowKit in
theorem Tryz.Builder_String_any_k(B b:Nat)(l:List UInt8)(w:World)(h:Lib.IsBuilderF 330 5 B b (Lib.byteCells l) w)(bN:B<=w.heap.size) :
  Calls Tryz.prog 287 #[.pointer (some ⟨b,0,none⟩)] w fun e w'=>e=.returned (.string ⟨l.toArray⟩)/\(Lib.IsBuilderF 330 5 B b (Lib.byteCells l) w'/\Below B w w'/\Lib.OthersKept 5 (some b) w w'):=Any.Builder_String_any_k Tryz.lays169 Tryz.Builder_Extra_169 B b l w h bN
def Tryz.lays283_ren:Go.Shelf.Ren:=⟨fun|283=>294|n=>n,fun|3=>3|9=>9|4=>4|n=>n,fun|n=>n⟩
theorem Tryz.lays283:Go.Proofs.Lays.n283 Tryz.prog Tryz.lays283_ren:={
 mixed:=by kernel_rfl
 f283:=Tryz.func294.trans (congrArg some (by kernel_rfl))
 t3:=Tryz.underlying3
 a3:=Tryz.isAgg3
 z3:=Tryz.sizeOf3
 v3:=Tryz.zeroValue3
 t4:=Tryz.underlying4
 a4:=Tryz.isAgg4
 z4:=Tryz.sizeOf4
 v4:=Tryz.zeroValue4
 t9:=Tryz.underlying9
 a9:=Tryz.isAgg9
 z9:=Tryz.sizeOf9
 v9:=Tryz.zeroValue9}
open Go.Lib in
theorem Tryz.internal_strconv_small(i:Nat)(h:i<100)(w:World) :
  Calls Tryz.prog 294 #[.int .i64 i] w fun e w'=>e=.returned (.string ⟨(Lib.decDigits i).toArray⟩)/\w'=w:=Any.internal_strconv_small Tryz.lays283 i h w
def Tryz.laysM284_ren:Go.Shelf.Ren:=⟨fun|284=>295|129=>131|317=>344|318=>345|n=>n,fun|53=>184|3=>3|212=>373|0=>0|4=>4|46=>113|5=>5|9=>9|n=>n,fun|17=>3|n=>n⟩
theorem Tryz.laysM284:Go.Proofs.LaysM.n284 Tryz.prog Tryz.laysM284_ren:={
 mixed:=by kernel_rfl
 f129:=Tryz.func131.trans (congrArg some (by kernel_rfl))
 f284:=Tryz.func295.trans (congrArg some (by kernel_rfl))
 f317:=Tryz.func344.trans (congrArg some (by kernel_rfl))
 f318:=Tryz.func345.trans (congrArg some (by kernel_rfl))
 t0:=Tryz.underlying0
 a0:=Tryz.isAgg0
 z0:=Tryz.sizeOf0
 v0:=Tryz.zeroValue0
 t3:=Tryz.underlying3
 a3:=Tryz.isAgg3
 z3:=Tryz.sizeOf3
 v3:=Tryz.zeroValue3
 t4:=Tryz.underlying4
 a4:=Tryz.isAgg4
 z4:=Tryz.sizeOf4
 v4:=Tryz.zeroValue4
 t5:=Tryz.underlying5
 a5:=Tryz.isAgg5
 z5:=Tryz.sizeOf5
 v5:=Tryz.zeroValue5
 t9:=Tryz.underlying9
 a9:=Tryz.isAgg9
 z9:=Tryz.sizeOf9
 v9:=Tryz.zeroValue9
 t46:=Tryz.underlying113
 a46:=Tryz.isAgg113
 z46:=Tryz.sizeOf113
 v46:=Tryz.zeroValue113
 t53:=Tryz.underlying184
 a53:=Tryz.isAgg184
 z53:=Tryz.sizeOf184
 v53:=Tryz.zeroValue184
 t212:=Tryz.underlying373
 a212:=Tryz.isAgg373
 z212:=Tryz.sizeOf373
 v212:=Tryz.zeroValue373
 g17:=by kernel_rfl
 i0:=by kernel_rfl
 i3:=by kernel_rfl
 i4:=by kernel_rfl
 i5:=by kernel_rfl
 i9:=by kernel_rfl
 i46:=by kernel_rfl
 i53:=by kernel_rfl
 i212:=by kernel_rfl
 m17:=by kernel_rfl}
open Go.Lib in
theorem Tryz.internal_strconv_numDigits(u:Nat)(h1:1<=u)(h2:u<18446744073709551616)(w:World)(htab:Lib.TabIs Tryz.prog w "internal/strconv.uint64pow10" .u64 Lib.pow10Tab) :
  Calls Tryz.prog 295 #[.int .u64 u] w fun e w'=>e=.returned (.int .i64 (Lib.nDigits u))/\w'=w:=Any.internal_strconv_numDigits Tryz.laysM284 u h1 h2 w htab
def Tryz.lays285_ren:Go.Shelf.Ren:=⟨fun|285=>296|n=>n,fun|37=>52|53=>184|3=>3|4=>4|51=>182|9=>9|5=>5|0=>0|n=>n,fun|n=>n⟩
theorem Tryz.lays285:Go.Proofs.Lays.n285 Tryz.prog Tryz.lays285_ren:={
 mixed:=by kernel_rfl
 f285:=Tryz.func296.trans (congrArg some (by kernel_rfl))
 t0:=Tryz.underlying0
 a0:=Tryz.isAgg0
 z0:=Tryz.sizeOf0
 v0:=Tryz.zeroValue0
 t3:=Tryz.underlying3
 a3:=Tryz.isAgg3
 z3:=Tryz.sizeOf3
 v3:=Tryz.zeroValue3
 t4:=Tryz.underlying4
 a4:=Tryz.isAgg4
 z4:=Tryz.sizeOf4
 v4:=Tryz.zeroValue4
 t5:=Tryz.underlying5
 a5:=Tryz.isAgg5
 z5:=Tryz.sizeOf5
 v5:=Tryz.zeroValue5
 t9:=Tryz.underlying9
 a9:=Tryz.isAgg9
 z9:=Tryz.sizeOf9
 v9:=Tryz.zeroValue9
 t37:=Tryz.underlying52
 a37:=Tryz.isAgg52
 z37:=Tryz.sizeOf52
 v37:=Tryz.zeroValue52
 t51:=Tryz.underlying182
 a51:=Tryz.isAgg182
 z51:=Tryz.sizeOf182
 v51:=Tryz.zeroValue182
 t53:=Tryz.underlying184
 a53:=Tryz.isAgg184
 z53:=Tryz.sizeOf184
 v53:=Tryz.zeroValue184}
open Go.RowKit Go.Sort Go.Lib in
theorem Tryz.internal_strconv_formatBase10(blk off cap:Nat)(u:Nat)(d:Array UInt8)(w:World)(hH:Holds (fun (b:UInt8)=>Value.int .u8 (b.toNat:Int)) w blk off d)(hu:u<10^d.size)(OE:u<18446744073709551616)(hsz:d.size<4611686018427387904) :
  Calls Tryz.prog 296 #[.slice (some ⟨blk,off,none⟩) d.size cap,.int .u64 u] w fun e w'=>e=.returned (.tuple #[])/\∃(n v':Nat) (dk:Array UInt8),w'=(putRow (fun (b:UInt8)=>Value.int .u8 (b.toNat:Int)) w blk off dk).drewN n/\FmtInv d.size u 0 v' dk:=Any.internal_strconv_formatBase10 Tryz.lays285 blk off cap u d w hH hu OE hsz
def Tryz.laysM171_ren:Go.Shelf.Ren:=⟨fun|171=>90|243=>167|246=>242|283=>294|284=>295|285=>296|286=>297|129=>131|317=>344|318=>345|319=>346|320=>347|337=>363|338=>364|n=>n,fun|3=>3|9=>9|2=>2|4=>4|171=>344|0=>0|53=>184|37=>52|5=>5|173=>346|212=>373|51=>182|20=>20|213=>374|46=>113|232=>392|233=>393|n=>n,fun|17=>3|18=>4|19=>5|n=>n⟩
theorem Tryz.laysM171:Go.Proofs.LaysM.n171 Tryz.prog Tryz.laysM171_ren:={
 mixed:=by kernel_rfl
 f129:=Tryz.func131.trans (congrArg some (by kernel_rfl))
 f171:=Tryz.func90.trans (congrArg some (by kernel_rfl))
 f243:=Tryz.func167.trans (congrArg some (by kernel_rfl))
 f246:=Tryz.func242.trans (congrArg some (by kernel_rfl))
 f283:=Tryz.func294.trans (congrArg some (by kernel_rfl))
 f284:=Tryz.func295.trans (congrArg some (by kernel_rfl))
 f285:=Tryz.func296.trans (congrArg some (by kernel_rfl))
 f286:=Tryz.func297.trans (congrArg some (by kernel_rfl))
 f317:=Tryz.func344.trans (congrArg some (by kernel_rfl))
 f318:=Tryz.func345.trans (congrArg some (by kernel_rfl))
 f319:=Tryz.func346.trans (congrArg some (by kernel_rfl))
 f320:=Tryz.func347.trans (congrArg some (by kernel_rfl))
 f337:=Tryz.func363.trans (congrArg some (by kernel_rfl))
 f338:=Tryz.func364.trans (congrArg some (by kernel_rfl))
 t0:=Tryz.underlying0
 a0:=Tryz.isAgg0
 z0:=Tryz.sizeOf0
 v0:=Tryz.zeroValue0
 t2:=Tryz.underlying2
 a2:=Tryz.isAgg2
 z2:=Tryz.sizeOf2
 v2:=Tryz.zeroValue2
 t3:=Tryz.underlying3
 a3:=Tryz.isAgg3
 z3:=Tryz.sizeOf3
 v3:=Tryz.zeroValue3
 t4:=Tryz.underlying4
 a4:=Tryz.isAgg4
 z4:=Tryz.sizeOf4
 v4:=Tryz.zeroValue4
 t5:=Tryz.underlying5
 a5:=Tryz.isAgg5
 z5:=Tryz.sizeOf5
 v5:=Tryz.zeroValue5
 t9:=Tryz.underlying9
 a9:=Tryz.isAgg9
 z9:=Tryz.sizeOf9
 v9:=Tryz.zeroValue9
 t20:=Tryz.underlying20
 a20:=Tryz.isAgg20
 z20:=Tryz.sizeOf20
 v20:=Tryz.zeroValue20
 t37:=Tryz.underlying52
 a37:=Tryz.isAgg52
 z37:=Tryz.sizeOf52
 v37:=Tryz.zeroValue52
 t46:=Tryz.underlying113
 a46:=Tryz.isAgg113
 z46:=Tryz.sizeOf113
 v46:=Tryz.zeroValue113
 t51:=Tryz.underlying182
 a51:=Tryz.isAgg182
 z51:=Tryz.sizeOf182
 v51:=Tryz.zeroValue182
 t53:=Tryz.underlying184
 a53:=Tryz.isAgg184
 z53:=Tryz.sizeOf184
 v53:=Tryz.zeroValue184
 t171:=Tryz.underlying344
 a171:=Tryz.isAgg344
 z171:=Tryz.sizeOf344
 v171:=Tryz.zeroValue344
 t173:=Tryz.underlying346
 a173:=Tryz.isAgg346
 z173:=Tryz.sizeOf346
 v173:=Tryz.zeroValue346
 t212:=Tryz.underlying373
 a212:=Tryz.isAgg373
 z212:=Tryz.sizeOf373
 v212:=Tryz.zeroValue373
 t213:=Tryz.underlying374
 a213:=Tryz.isAgg374
 z213:=Tryz.sizeOf374
 t232:=Tryz.underlying392
 a232:=Tryz.isAgg392
 z232:=Tryz.sizeOf392
 v232:=Tryz.zeroValue392
 t233:=Tryz.underlying393
 a233:=Tryz.isAgg393
 z233:=Tryz.sizeOf393
 v233:=Tryz.zeroValue393
 g17:=by kernel_rfl
 g18:=by kernel_rfl
 g19:=by kernel_rfl
 i0:=by kernel_rfl
 i2:=by kernel_rfl
 i3:=by kernel_rfl
 i4:=by kernel_rfl
 i5:=by kernel_rfl
 i9:=by kernel_rfl
 i20:=by kernel_rfl
 i37:=by kernel_rfl
 i46:=by kernel_rfl
 i51:=by kernel_rfl
 i53:=by kernel_rfl
 i171:=by kernel_rfl
 i173:=by kernel_rfl
 i212:=by kernel_rfl
 i232:=by kernel_rfl
 i233:=by kernel_rfl
 m17:=by kernel_rfl
 m18:=by kernel_rfl
 m19:=by kernel_rfl}
open Go.RowKit Go.Sort Go.Lib in
theorem Tryz.strconv_Itoa(n:Int)(h0:-9223372036854775808<=n)(h1:n<=9223372036854775807)(w:World)(htab:Lib.TabIs Tryz.prog w "internal/strconv.uint64pow10" .u64 Lib.pow10Tab) :
  Calls Tryz.prog 90 #[.int .i64 n] w fun e w'=>e=.returned (.string ⟨(Lib.itoa n).toArray⟩)/\∃k os,w'=grow (w.drewN k) os:=Any.strconv_Itoa Tryz.laysM171 n h0 h1 w htab
def Tryz.laysC172_ren:Go.Shelf.Ren:=⟨fun|172=>159|244=>237|245=>238|247=>289|279=>290|280=>291|281=>292|282=>293|287=>338|316=>342|171=>90|205=>343|321=>360|322=>361|243=>167|246=>242|283=>294|284=>295|285=>296|286=>297|129=>131|317=>344|318=>345|319=>346|320=>347|337=>363|338=>364|n=>n,fun|9=>9|3=>3|75=>216|76=>217|4=>4|5=>5|167=>338|37=>52|0=>0|85=>339|2=>2|168=>341|53=>184|175=>325|46=>113|210=>370|127=>367|145=>387|143=>385|21=>21|171=>344|173=>346|212=>373|51=>182|20=>20|213=>374|232=>392|233=>393|80=>336|n=>n,fun|15=>1|16=>2|17=>3|18=>4|19=>5|n=>n⟩
theorem Tryz.laysC172:Go.Proofs.LaysC.n172 Tryz.prog Tryz.laysC172_ren:={
 mixed:=by kernel_rfl
 f129:=Tryz.func131.trans (congrArg some (by kernel_rfl))
 f171:=Tryz.func90.trans (congrArg some (by kernel_rfl))
 f172:=Tryz.func159.trans (congrArg some (by kernel_rfl))
 f205:=Tryz.func343.trans (congrArg some (by kernel_rfl))
 f243:=Tryz.func167.trans (congrArg some (by kernel_rfl))
 f244:=Tryz.func237.trans (congrArg some (by kernel_rfl))
 f245:=Tryz.func238.trans (congrArg some (by kernel_rfl))
 f246:=Tryz.func242.trans (congrArg some (by kernel_rfl))
 f247:=Tryz.func289.trans (congrArg some (by kernel_rfl))
 f279:=Tryz.func290.trans (congrArg some (by kernel_rfl))
 f280:=Tryz.func291.trans (congrArg some (by kernel_rfl))
 f281:=Tryz.func292.trans (congrArg some (by kernel_rfl))
 f282:=Tryz.func293.trans (congrArg some (by kernel_rfl))
 f283:=Tryz.func294.trans (congrArg some (by kernel_rfl))
 f284:=Tryz.func295.trans (congrArg some (by kernel_rfl))
 f285:=Tryz.func296.trans (congrArg some (by kernel_rfl))
 f286:=Tryz.func297.trans (congrArg some (by kernel_rfl))
 f287:=Tryz.func338.trans (congrArg some (by kernel_rfl))
 f316:=Tryz.func342.trans (congrArg some (by kernel_rfl))
 f317:=Tryz.func344.trans (congrArg some (by kernel_rfl))
 f318:=Tryz.func345.trans (congrArg some (by kernel_rfl))
 f319:=Tryz.func346.trans (congrArg some (by kernel_rfl))
 f320:=Tryz.func347.trans (congrArg some (by kernel_rfl))
 f321:=Tryz.func360.trans (congrArg some (by kernel_rfl))
 f322:=Tryz.func361.trans (congrArg some (by kernel_rfl))
 f337:=Tryz.func363.trans (congrArg some (by kernel_rfl))
 f338:=Tryz.func364.trans (congrArg some (by kernel_rfl))
 t0:=Tryz.underlying0
 a0:=Tryz.isAgg0
 z0:=Tryz.sizeOf0
 v0:=Tryz.zeroValue0
 t2:=Tryz.underlying2
 a2:=Tryz.isAgg2
 z2:=Tryz.sizeOf2
 v2:=Tryz.zeroValue2
 t3:=Tryz.underlying3
 a3:=Tryz.isAgg3
 z3:=Tryz.sizeOf3
 v3:=Tryz.zeroValue3
 t4:=Tryz.underlying4
 a4:=Tryz.isAgg4
 z4:=Tryz.sizeOf4
 v4:=Tryz.zeroValue4
 t5:=Tryz.underlying5
 a5:=Tryz.isAgg5
 z5:=Tryz.sizeOf5
 v5:=Tryz.zeroValue5
 t9:=Tryz.underlying9
 a9:=Tryz.isAgg9
 z9:=Tryz.sizeOf9
 v9:=Tryz.zeroValue9
 t20:=Tryz.underlying20
 a20:=Tryz.isAgg20
 z20:=Tryz.sizeOf20
 v20:=Tryz.zeroValue20
 t21:=Tryz.underlying21
 a21:=Tryz.isAgg21
 z21:=Tryz.sizeOf21
 v21:=Tryz.zeroValue21
 t37:=Tryz.underlying52
 a37:=Tryz.isAgg52
 z37:=Tryz.sizeOf52
 v37:=Tryz.zeroValue52
 t46:=Tryz.underlying113
 a46:=Tryz.isAgg113
 z46:=Tryz.sizeOf113
 v46:=Tryz.zeroValue113
 t51:=Tryz.underlying182
 a51:=Tryz.isAgg182
 z51:=Tryz.sizeOf182
 v51:=Tryz.zeroValue182
 t53:=Tryz.underlying184
 a53:=Tryz.isAgg184
 z53:=Tryz.sizeOf184
 v53:=Tryz.zeroValue184
 t75:=Tryz.underlying216
 a75:=Tryz.isAgg216
 z75:=Tryz.sizeOf216
 v75:=Tryz.zeroValue216
 t76:=Tryz.underlying217
 a76:=Tryz.isAgg217
 z76:=Tryz.sizeOf217
 v76:=Tryz.zeroValue217
 t85:=Tryz.underlying339
 a85:=Tryz.isAgg339
 z85:=Tryz.sizeOf339
 v85:=Tryz.zeroValue339
 t127:=Tryz.underlying367
 a127:=Tryz.isAgg367
 z127:=Tryz.sizeOf367
 v127:=Tryz.zeroValue367
 t143:=Tryz.underlying385
 a143:=Tryz.isAgg385
 z143:=Tryz.sizeOf385
 v143:=Tryz.zeroValue385
 t145:=Tryz.underlying387
 a145:=Tryz.isAgg387
 z145:=Tryz.sizeOf387
 v145:=Tryz.zeroValue387
 t167:=Tryz.underlying338
 a167:=Tryz.isAgg338
 z167:=Tryz.sizeOf338
 v167:=Tryz.zeroValue338
 t168:=Tryz.underlying341
 a168:=Tryz.isAgg341
 z168:=Tryz.sizeOf341
 v168:=Tryz.zeroValue341
 t171:=Tryz.underlying344
 a171:=Tryz.isAgg344
 z171:=Tryz.sizeOf344
 v171:=Tryz.zeroValue344
 t173:=Tryz.underlying346
 a173:=Tryz.isAgg346
 z173:=Tryz.sizeOf346
 v173:=Tryz.zeroValue346
 t175:=Tryz.underlying325
 a175:=Tryz.isAgg325
 z175:=Tryz.sizeOf325
 v175:=Tryz.zeroValue325
 t210:=Tryz.underlying370
 a210:=Tryz.isAgg370
 z210:=Tryz.sizeOf370
 v210:=Tryz.zeroValue370
 t212:=Tryz.underlying373
 a212:=Tryz.isAgg373
 z212:=Tryz.sizeOf373
 v212:=Tryz.zeroValue373
 t213:=Tryz.underlying374
 a213:=Tryz.isAgg374
 z213:=Tryz.sizeOf374
 t232:=Tryz.underlying392
 a232:=Tryz.isAgg392
 z232:=Tryz.sizeOf392
 v232:=Tryz.zeroValue392
 t233:=Tryz.underlying393
 a233:=Tryz.isAgg393
 z233:=Tryz.sizeOf393
 v233:=Tryz.zeroValue393
 g15:=by kernel_rfl
 g16:=by kernel_rfl
 g17:=by kernel_rfl
 g18:=by kernel_rfl
 g19:=by kernel_rfl
 t80:=Tryz.underlying336
 a80:=Tryz.isAgg336
 z80:=Tryz.sizeOf336
 v80:=Tryz.zeroValue336
 i0:=by kernel_rfl
 i2:=by kernel_rfl
 i3:=by kernel_rfl
 i4:=by kernel_rfl
 i5:=by kernel_rfl
 i9:=by kernel_rfl
 i20:=by kernel_rfl
 i21:=by kernel_rfl
 i37:=by kernel_rfl
 i46:=by kernel_rfl
 i51:=by kernel_rfl
 i53:=by kernel_rfl
 i75:=by kernel_rfl
 i76:=by kernel_rfl
 i80:=by kernel_rfl
 i85:=by kernel_rfl
 i127:=by kernel_rfl
 i143:=by kernel_rfl
 i145:=by kernel_rfl
 i167:=by kernel_rfl
 i168:=by kernel_rfl
 i171:=by kernel_rfl
 i173:=by kernel_rfl
 i175:=by kernel_rfl
 i210:=by kernel_rfl
 i212:=by kernel_rfl
 i232:=by kernel_rfl
 i233:=by kernel_rfl
 m15:=by kernel_rfl
 m16:=by kernel_rfl
 m17:=by kernel_rfl
 m18:=by kernel_rfl
 m19:=by kernel_rfl
 c0:=by kernel_rfl
 c2:=by kernel_rfl
 c3:=by kernel_rfl
 c4:=by kernel_rfl
 c5:=by kernel_rfl
 c9:=by kernel_rfl
 c20:=by kernel_rfl
 c21:=by kernel_rfl
 c37:=by kernel_rfl
 c46:=by kernel_rfl
 c51:=by kernel_rfl
 c53:=by kernel_rfl
 c75:=by kernel_rfl
 c76:=by kernel_rfl
 c80:=by kernel_rfl
 c85:=by kernel_rfl
 c127:=by kernel_rfl
 c143:=by kernel_rfl
 c145:=by kernel_rfl
 c167:=by kernel_rfl
 c168:=by kernel_rfl
 c171:=by kernel_rfl
 c173:=by kernel_rfl
 c175:=by kernel_rfl
 c210:=by kernel_rfl
 c212:=by kernel_rfl
 c213:=by kernel_rfl
 c232:=by kernel_rfl
 c233:=by kernel_rfl}
open Go.RowKit in
theorem Tryz.strconv_Atoi_ok(s:ByteArray)(hmax:s.size<=9223372036854775806)(v:Int)(h:Lib.atoiAll s.data.toList=.ok v)(w:World) :
  Calls Tryz.prog 159 #[.string s] w fun e w'=>e=.returned (.tuple #[.int .i64 v,.nilIface])/\(w'=w∨∃t,w'=Lib.bytesWorld w 5 t):=Any.strconv_Atoi_ok Tryz.laysC172 s hmax v h w
def Tryz.laysPu14_ren:Go.Shelf.Ren:=⟨fun|14=>281|16=>338|17=>238|19=>360|20=>361|21=>290|22=>291|23=>292|24=>293|25=>342|27=>90|26=>343|28=>167|29=>242|30=>294|31=>295|32=>296|33=>297|35=>131|34=>344|36=>345|37=>346|38=>347|39=>363|40=>364|n=>n,fun|9=>9|3=>3|22=>184|24=>216|25=>325|4=>4|34=>338|5=>5|36=>113|37=>52|0=>0|39=>341|21=>21|44=>370|47=>367|50=>387|48=>385|2=>2|52=>344|55=>346|59=>373|60=>182|20=>20|61=>374|65=>392|66=>393|67=>336|n=>n,fun|0=>1|1=>2|2=>3|3=>4|4=>5|n=>n⟩
theorem Tryz.laysPu14:Go.Proofs.LaysPu.n14 Tryz.prog Tryz.laysPu14_ren:={
 mixed:=by kernel_rfl
 f14:=Tryz.func281.trans (congrArg some (by kernel_rfl))
 f16:=Tryz.func338.trans (congrArg some (by kernel_rfl))
 f17:=Tryz.func238.trans (congrArg some (by kernel_rfl))
 f19:=Tryz.func360.trans (congrArg some (by kernel_rfl))
 f20:=Tryz.func361.trans (congrArg some (by kernel_rfl))
 f21:=Tryz.func290.trans (congrArg some (by kernel_rfl))
 f22:=Tryz.func291.trans (congrArg some (by kernel_rfl))
 f23:=Tryz.func292.trans (congrArg some (by kernel_rfl))
 f24:=Tryz.func293.trans (congrArg some (by kernel_rfl))
 f25:=Tryz.func342.trans (congrArg some (by kernel_rfl))
 f26:=Tryz.func343.trans (congrArg some (by kernel_rfl))
 f27:=Tryz.func90.trans (congrArg some (by kernel_rfl))
 f28:=Tryz.func167.trans (congrArg some (by kernel_rfl))
 f29:=Tryz.func242.trans (congrArg some (by kernel_rfl))
 f30:=Tryz.func294.trans (congrArg some (by kernel_rfl))
 f31:=Tryz.func295.trans (congrArg some (by kernel_rfl))
 f32:=Tryz.func296.trans (congrArg some (by kernel_rfl))
 f33:=Tryz.func297.trans (congrArg some (by kernel_rfl))
 f34:=Tryz.func344.trans (congrArg some (by kernel_rfl))
 f35:=Tryz.func131.trans (congrArg some (by kernel_rfl))
 f36:=Tryz.func345.trans (congrArg some (by kernel_rfl))
 f37:=Tryz.func346.trans (congrArg some (by kernel_rfl))
 f38:=Tryz.func347.trans (congrArg some (by kernel_rfl))
 f39:=Tryz.func363.trans (congrArg some (by kernel_rfl))
 f40:=Tryz.func364.trans (congrArg some (by kernel_rfl))
 t0:=Tryz.underlying0
 a0:=Tryz.isAgg0
 z0:=Tryz.sizeOf0
 v0:=Tryz.zeroValue0
 i0:=by kernel_rfl
 t2:=Tryz.underlying2
 a2:=Tryz.isAgg2
 z2:=Tryz.sizeOf2
 v2:=Tryz.zeroValue2
 i2:=by kernel_rfl
 t3:=Tryz.underlying3
 a3:=Tryz.isAgg3
 z3:=Tryz.sizeOf3
 v3:=Tryz.zeroValue3
 i3:=by kernel_rfl
 t4:=Tryz.underlying4
 a4:=Tryz.isAgg4
 z4:=Tryz.sizeOf4
 v4:=Tryz.zeroValue4
 i4:=by kernel_rfl
 t5:=Tryz.underlying5
 a5:=Tryz.isAgg5
 z5:=Tryz.sizeOf5
 v5:=Tryz.zeroValue5
 i5:=by kernel_rfl
 t9:=Tryz.underlying9
 a9:=Tryz.isAgg9
 z9:=Tryz.sizeOf9
 v9:=Tryz.zeroValue9
 i9:=by kernel_rfl
 t20:=Tryz.underlying20
 a20:=Tryz.isAgg20
 z20:=Tryz.sizeOf20
 v20:=Tryz.zeroValue20
 i20:=by kernel_rfl
 t21:=Tryz.underlying21
 a21:=Tryz.isAgg21
 z21:=Tryz.sizeOf21
 v21:=Tryz.zeroValue21
 i21:=by kernel_rfl
 t22:=Tryz.underlying184
 a22:=Tryz.isAgg184
 z22:=Tryz.sizeOf184
 v22:=Tryz.zeroValue184
 i22:=by kernel_rfl
 t24:=Tryz.underlying216
 a24:=Tryz.isAgg216
 z24:=Tryz.sizeOf216
 v24:=Tryz.zeroValue216
 i24:=by kernel_rfl
 t25:=Tryz.underlying325
 a25:=Tryz.isAgg325
 z25:=Tryz.sizeOf325
 v25:=Tryz.zeroValue325
 i25:=by kernel_rfl
 t34:=Tryz.underlying338
 a34:=Tryz.isAgg338
 z34:=Tryz.sizeOf338
 v34:=Tryz.zeroValue338
 i34:=by kernel_rfl
 c34:=by kernel_rfl
 t36:=Tryz.underlying113
 a36:=Tryz.isAgg113
 z36:=Tryz.sizeOf113
 v36:=Tryz.zeroValue113
 i36:=by kernel_rfl
 t37:=Tryz.underlying52
 a37:=Tryz.isAgg52
 z37:=Tryz.sizeOf52
 v37:=Tryz.zeroValue52
 i37:=by kernel_rfl
 t39:=Tryz.underlying341
 a39:=Tryz.isAgg341
 z39:=Tryz.sizeOf341
 v39:=Tryz.zeroValue341
 i39:=by kernel_rfl
 t44:=Tryz.underlying370
 a44:=Tryz.isAgg370
 z44:=Tryz.sizeOf370
 v44:=Tryz.zeroValue370
 i44:=by kernel_rfl
 t47:=Tryz.underlying367
 a47:=Tryz.isAgg367
 z47:=Tryz.sizeOf367
 v47:=Tryz.zeroValue367
 i47:=by kernel_rfl
 t48:=Tryz.underlying385
 a48:=Tryz.isAgg385
 z48:=Tryz.sizeOf385
 v48:=Tryz.zeroValue385
 i48:=by kernel_rfl
 t50:=Tryz.underlying387
 a50:=Tryz.isAgg387
 z50:=Tryz.sizeOf387
 v50:=Tryz.zeroValue387
 i50:=by kernel_rfl
 t52:=Tryz.underlying344
 a52:=Tryz.isAgg344
 z52:=Tryz.sizeOf344
 v52:=Tryz.zeroValue344
 i52:=by kernel_rfl
 t55:=Tryz.underlying346
 a55:=Tryz.isAgg346
 z55:=Tryz.sizeOf346
 v55:=Tryz.zeroValue346
 i55:=by kernel_rfl
 t59:=Tryz.underlying373
 a59:=Tryz.isAgg373
 z59:=Tryz.sizeOf373
 v59:=Tryz.zeroValue373
 i59:=by kernel_rfl
 t60:=Tryz.underlying182
 a60:=Tryz.isAgg182
 z60:=Tryz.sizeOf182
 v60:=Tryz.zeroValue182
 i60:=by kernel_rfl
 t61:=Tryz.underlying374
 a61:=Tryz.isAgg374
 z61:=Tryz.sizeOf374
 t65:=Tryz.underlying392
 a65:=Tryz.isAgg392
 z65:=Tryz.sizeOf392
 v65:=Tryz.zeroValue392
 i65:=by kernel_rfl
 t66:=Tryz.underlying393
 a66:=Tryz.isAgg393
 z66:=Tryz.sizeOf393
 v66:=Tryz.zeroValue393
 i66:=by kernel_rfl
 t67:=Tryz.underlying336
 a67:=Tryz.isAgg336
 z67:=Tryz.sizeOf336
 v67:=Tryz.zeroValue336
 i67:=by kernel_rfl
 g0:=by kernel_rfl
 m0:=by kernel_rfl
 g1:=by kernel_rfl
 m1:=by kernel_rfl
 g2:=by kernel_rfl
 m2:=by kernel_rfl
 g3:=by kernel_rfl
 m3:=by kernel_rfl
 g4:=by kernel_rfl
 m4:=by kernel_rfl}
open Go.RowKit in
theorem Tryz.strconv_ParseUint_10_at64_ok(s:ByteArray)(hmax:s.size<=9223372036854775806)(u:Nat)(h:Lib.parseUintB 64 s.data.toList=.ok u)(w:World) :
  Calls Tryz.prog 281 #[.string s,.int .i64 10,.int .i64 64] w fun e w'=>e=.returned (.tuple #[.int .u64 u,.nilIface])/\(w'=w∨w'=Lib.bytesWorld w 5 s):=Any.strconv_ParseUint_10_at64_ok Tryz.laysPu14 s hmax u h w
def Tryz.laysM145_ren:Go.Shelf.Ren:=⟨fun|145=>218|220=>276|219=>332|217=>268|225=>357|224=>358|267=>359|266=>326|314=>367|n=>n,fun|9=>9|4=>4|59=>273|3=>3|5=>5|46=>113|146=>390|51=>182|n=>n,fun|1=>0|n=>n⟩
theorem Tryz.laysM145:Go.Proofs.LaysM.n145 Tryz.prog Tryz.laysM145_ren:={
 mixed:=by kernel_rfl
 f145:=Tryz.func218.trans (congrArg some (by kernel_rfl))
 f217:=Tryz.func268.trans (congrArg some (by kernel_rfl))
 f219:=Tryz.func332.trans (congrArg some (by kernel_rfl))
 f220:=Tryz.func276.trans (congrArg some (by kernel_rfl))
 f224:=Tryz.func358.trans (congrArg some (by kernel_rfl))
 f225:=Tryz.func357.trans (congrArg some (by kernel_rfl))
 f266:=Tryz.func326.trans (congrArg some (by kernel_rfl))
 f267:=Tryz.func359.trans (congrArg some (by kernel_rfl))
 f314:=Tryz.func367.trans (congrArg some (by kernel_rfl))
 t3:=Tryz.underlying3
 a3:=Tryz.isAgg3
 z3:=Tryz.sizeOf3
 v3:=Tryz.zeroValue3
 t4:=Tryz.underlying4
 a4:=Tryz.isAgg4
 z4:=Tryz.sizeOf4
 v4:=Tryz.zeroValue4
 t5:=Tryz.underlying5
 a5:=Tryz.isAgg5
 z5:=Tryz.sizeOf5
 v5:=Tryz.zeroValue5
 t9:=Tryz.underlying9
 a9:=Tryz.isAgg9
 z9:=Tryz.sizeOf9
 v9:=Tryz.zeroValue9
 t46:=Tryz.underlying113
 a46:=Tryz.isAgg113
 z46:=Tryz.sizeOf113
 v46:=Tryz.zeroValue113
 t51:=Tryz.underlying182
 a51:=Tryz.isAgg182
 z51:=Tryz.sizeOf182
 v51:=Tryz.zeroValue182
 t59:=Tryz.underlying273
 a59:=Tryz.isAgg273
 z59:=Tryz.sizeOf273
 v59:=Tryz.zeroValue273
 t146:=Tryz.underlying390
 a146:=Tryz.isAgg390
 z146:=Tryz.sizeOf390
 v146:=Tryz.zeroValue390
 g1:=by kernel_rfl
 i3:=by kernel_rfl
 i4:=by kernel_rfl
 i5:=by kernel_rfl
 i9:=by kernel_rfl
 i46:=by kernel_rfl
 i51:=by kernel_rfl
 i59:=by kernel_rfl
 i146:=by kernel_rfl
 m1:=by kernel_rfl
 s1_3:=fun w h=>Go.Proofs.cell_of_shapedOpen_int (zero:=#[.int .i64 0]) (t:=3) h (of_decide_eq_true (by kernel_rfl)) (by kernel_rfl) rfl (by kernel_rfl) (by kernel_rfl) Tryz.underlying3}
open Go.RowKit Go.Lib in
theorem Tryz.strings_Cut_shaped(s sep:ByteArray)(w:World)(h:w.ShapedOpen Tryz.prog)(hs:s.size<4294967281) :
  Calls Tryz.prog 218 #[.string s,.string sep] w fun e w'=>e=.returned (.tuple #[.string ⟨(Lib.cut s.data.toList sep.data.toList).1.toArray⟩,.string ⟨(Lib.cut s.data.toList sep.data.toList).2.1.toArray⟩,.bool (Lib.cut s.data.toList sep.data.toList).2.2])/\∃n,w'=w.drewN n:=Any.strings_Cut_shaped Tryz.laysM145 s sep w h hs
def Tryz.lays99_ren:Go.Shelf.Ren:=⟨fun|99=>279|206=>337|n=>n,fun|9=>9|4=>4|3=>3|n=>n,fun|n=>n⟩
theorem Tryz.lays99:Go.Proofs.Lays.n99 Tryz.prog Tryz.lays99_ren:={
 mixed:=by kernel_rfl
 f99:=Tryz.func279.trans (congrArg some (by kernel_rfl))
 f206:=Tryz.func337.trans (congrArg some (by kernel_rfl))
 t3:=Tryz.underlying3
 a3:=Tryz.isAgg3
 z3:=Tryz.sizeOf3
 v3:=Tryz.zeroValue3
 t4:=Tryz.underlying4
 a4:=Tryz.isAgg4
 z4:=Tryz.sizeOf4
 v4:=Tryz.zeroValue4
 t9:=Tryz.underlying9
 a9:=Tryz.isAgg9
 z9:=Tryz.sizeOf9
 v9:=Tryz.zeroValue9}
open Go.RowKit Go.Lib in
theorem Tryz.strings_HasPrefix(s p:ByteArray)(w:World) :
  Calls Tryz.prog 279 #[.string s,.string p] w fun e w'=>e=.returned (.bool (Lib.hasPrefix s.data.toList p.data.toList))/\w'=w:=Any.strings_HasPrefix Tryz.lays99 s p w
def Tryz.lays101_ren:Go.Shelf.Ren:=⟨fun|101=>222|208=>280|206=>337|n=>n,fun|9=>9|4=>4|3=>3|n=>n,fun|n=>n⟩
theorem Tryz.lays101:Go.Proofs.Lays.n101 Tryz.prog Tryz.lays101_ren:={
 mixed:=by kernel_rfl
 f101:=Tryz.func222.trans (congrArg some (by kernel_rfl))
 f206:=Tryz.func337.trans (congrArg some (by kernel_rfl))
 f208:=Tryz.func280.trans (congrArg some (by kernel_rfl))
 t3:=Tryz.underlying3
 a3:=Tryz.isAgg3
 z3:=Tryz.sizeOf3
 v3:=Tryz.zeroValue3
 t4:=Tryz.underlying4
 a4:=Tryz.isAgg4
 z4:=Tryz.sizeOf4
 v4:=Tryz.zeroValue4
 t9:=Tryz.underlying9
 a9:=Tryz.isAgg9
 z9:=Tryz.sizeOf9
 v9:=Tryz.zeroValue9}
open Go.RowKit Go.Lib in
theorem Tryz.strings_TrimPrefix(s p:ByteArray)(w:World) :
  Calls Tryz.prog 222 #[.string s,.string p] w fun e w'=>e=.returned (.string ⟨(Lib.trimPrefix s.data.toList p.data.toList).toArray⟩)/\w'=w:=Any.strings_TrimPrefix Tryz.lays101 s p w
end Go.Proofs
namespace Go.Proofs.YtjalkoacphhgdaaGreatDoor
theorem Ajw:true=Tryz.pinned.checked.prog.looks []:=by kernel_rfl
end Go.Proofs.YtjalkoacphhgdaaGreatDoor
namespace Go.Proofs.YtjalkoacphhgdaaGreatDoor
open Go.RowKit Kl
def QI(q:Rat):Value:=if (D q.num.natAbs).length<=9/\(D q.den).length<=9 then .tuple #[.int .i64 q.num,.int .i64 q.den,.bool true] else .tuple #[.int .i64 0,.int .i64 0,.bool false]
structure Seg(s:ByteArray)(b:Nat)(m:Bs):Prop where
 le:b+m.length<=s.size
 all:BD m
 at_:∀(j:Nat) (h:j<s.size),b<=j→j<b+m.length→s[j]=m.getD (j-b) 0
theorem Seg.digit{s:ByteArray}{b:Nat}{m:Bs}(h:Seg s b m){j:Nat}(hj:j<s.size)(h1:b<=j)(h2:j<b+m.length) :
  ∃c:UInt8,s[j]=c/\FB c/\val (m.take (j+1-b))=val (m.take (j-b))*10+(c.toNat-48):=by
 have e:=h.at_ j hj h1 h2;have hl:j-b<m.length:=(by omega);refine⟨m[j-b],?_,h.all _ (AqL hl),?_⟩
 ·rw [e];simp [List.getD,hl]
 ·rw [show j+1-b=j-b+1 by omega,AqN hl,mY];rfl
theorem Aaf{m:Bs}(h:BD m){k:Nat} : val (m.take k)<10^k:=by
 have h1:=GR (Z3 h k);have h2:10^(m.take k).length<=10^k:=Nat.pow_le_pow_right (by omega) (by rw [List.length_take];omega);omega
theorem Seg.digit'{s:ByteArray}{b:Nat}{m:Bs}(h:Seg s b m){j:Nat}(h1:b<=j)(h2:j<b+m.length)(h9:j<b+9) :
  ∃(c:UInt8) (v:Nat) (hj:j<s.size),s[j]=c/\(48:Int)<=(c.toNat:Int)/\(c.toNat:Int)<=57/\((c.toNat:Int) != 47)=true/\v=val (m.take (j-b))/\(v:Int)<=99999999/\
   ((val (m.take (j+1-b)):Nat):Int)=10*(v:Int)+((c.toNat:Int)-48):=by
 have hj:j<s.size:=(by have:=h.le;omega);obtain⟨c,e1,d,e2⟩:=h.digit hj h1 h2;have hv:=Aaf h.all (k:=j-b);have h8:10^(j-b)<=10^8:=Nat.pow_le_pow_right (by omega) (by omega);have h10:(10:Nat)^8=100000000:=(by decide);have:=d.1;have:=d.2;refine⟨c,_,hj,e1,by omega,by omega,?_,rfl,by omega,by rw [e2];omega⟩;rw [bne_iff_ne];omega
def ER(sg:Bool)(m m2:Bs):Value:=if m.length<=9/\m2.length<=9 then .tuple #[.int .i64 (if sg then -(val m:Int)else (val m:Int)),.int .i64 (val m2:Nat),.bool true] else .tuple #[.int .i64 0,.int .i64 0,.bool false]
theorem QK{sg:Bool}{m m2:Bs}(h:9<m.length∨9<m2.length):ER sg m m2=.tuple #[.int .i64 0,.int .i64 0,.bool false]:=if_neg (by omega)
theorem Yd{sg:Bool}{m m2:Bs}(h:m.length<=9)(h2:m2.length<=9):ER sg m m2=.tuple #[.int .i64 (if sg then -(val m:Int)else (val m:Int)),.int .i64 (val m2:Nat),.bool true]:=if_pos ⟨h,h2⟩
theorem IF{a b:Value}(h:b=a):Ending.returned a=.returned b:=by rw [h]
/-! ### The walks -/
theorem AlA(s:ByteArray)(m:Bs)(hm:Seg s 0 m)(hs:s.size=0+m.length)(hmax:s.size<=100000)(h0:0<m.length)(w:World) :
  Calls Tryz.prog 143 #[.string s] w (fun e w'=>e=.returned (ER false m [49])/\w=w'):=by
 have hp:(0:Int)<(s.size:Int):=(by omega);obtain⟨c0,-,hs0,e0,d0,d1,-⟩:=hm.digit' (j:=0) (by omega) (by omega) (by omega);have hc:((c0.toNat:Int) == 45)=false:=(by rw [beq_eq_false_iff_ne];omega);clear d0 d1;have HS:=AqH hs;clear hs;go_enter Tryz.func143,Tryz.ntmps143;go_wp2;clear hc e0 hp
 go_loop [2,3,5] (fun n z i=>∃j:Nat,0<=j/\j<=0+m.length/\j<=0+9/\z=.int .i64 0/\i=.int .i64 (j:Nat)/\n=.int .i64 (val (m.take (j-0)):Nat)) (fun _ _ i=>s.size-(intOf i).toNat)
 case atStart=>exact⟨0,by omega,by omega,by omega,rfl,rfl,by simp [FS]⟩
 case round=>
  obtain⟨j,hj0,Gh,Tc,rfl,rfl,rfl⟩:=hrel;have O4:j<=s.size:=(by have:=HS.out;omega);by_cases hlt:j<0+m.length
  ·by_cases h9:j=0+9
   ·have DD:j<s.size:=(by have:=HS.out;omega);obtain⟨c,e,d,-⟩:=hm.digit DD hj0 hlt;have d1:=d.1;have Cy:((c.toNat:Int) != 47)=true:=(by rw [bne_iff_ne];omega);have Ge:(((j:Int)) == 9)=true:=(by rw [beq_iff_eq];omega);have Gj:(j:Int)<(s.size:Int):=(by omega);have Eo:(0:Int)<=(j:Int):=(by omega);have HV:Hid (ER false m [49]=.tuple #[.int .i64 0,.int .i64 0,.bool false]):=AqH (QK (.inl (by omega)));clear h9 d d1;go_wp2;go_ret3;exact⟨IF HV.out,rfl⟩
   ·obtain⟨c,v,DD,e,d1,d2,Cy,hv,EN,hn⟩:=hm.digit' hj0 hlt (by omega);have Ge:(((j:Int)) == 9)=false:=(by rw [beq_eq_false_iff_ne];omega);have Gj:(j:Int)<(s.size:Int):=(by omega);have Eo:(0:Int)<=(j:Int):=(by omega);rw [←hv];have HN:=AqH hn;clear hv hn;go_wp2
    go_round
    case rel=>exact⟨j+1,by omega,by omega,by omega,rfl,by go_num,by rw [HN.out]⟩
    case measure=>simp [intOf];omega
  ·have Cb:j=0+m.length:=(by omega);have ht:m.take (j-0)=m:=by rw [Cb];simp
   have EN:((val m:Nat):Int)<=999999999:=by have h1:=GR hm.all;have h2:10^m.length<=10^9:=Nat.pow_le_pow_right (by omega) (by omega);have h3:(10:Nat)^9=1000000000:=(by decide);omega
   have CJ:m.length<=9:=(by omega);rw [ht];have Eo:(0:Int)<=(j:Int):=(by omega);have hle:(s.size:Int)<=(j:Int):=(by have:=HS.out;omega);have CW:((j:Int) == (s.size:Int))=true:=(by rw [beq_iff_eq];have:=HS.out;omega);have HV:Hid (ER false m [49]=.tuple #[.int .i64 ((val m:Int)),.int .i64 1,.bool true]):=AqH (Yd CJ (by simp));clear ht Cb hlt;go_wp2;go_ret3;exact⟨IF HV.out,rfl⟩
theorem Al8(s:ByteArray)(m m2:Bs)(hm:Seg s 0 m)(Fo:Seg s (0+m.length+1) m2)(hs:s.size=0+m.length+1+m2.length)(h2:0<m2.length)(hq:∃h:0+m.length<s.size,s[0+m.length]=47)(hmax:s.size<=100000)(h0:0<m.length)(w:World) :
  Calls Tryz.prog 143 #[.string s] w (fun e w'=>e=.returned (ER false m m2)/\w=w'):=by
 have hp:(0:Int)<(s.size:Int):=(by omega);obtain⟨c0,-,hs0,e0,d0,d1,-⟩:=hm.digit' (j:=0) (by omega) (by omega) (by omega);have hc:((c0.toNat:Int) == 45)=false:=(by rw [beq_eq_false_iff_ne];omega);clear d0 d1;have HS:=AqH hs;clear hs;go_enter Tryz.func143,Tryz.ntmps143;go_wp2;clear hc e0 hp
 go_loop [2,3,5] (fun n z i=>∃j:Nat,0<=j/\j<=0+m.length/\j<=0+9/\z=.int .i64 0/\i=.int .i64 (j:Nat)/\n=.int .i64 (val (m.take (j-0)):Nat)) (fun _ _ i=>s.size-(intOf i).toNat)
 case atStart=>exact⟨0,by omega,by omega,by omega,rfl,rfl,by simp [FS]⟩
 case round=>
  obtain⟨j,hj0,Gh,Tc,rfl,rfl,rfl⟩:=hrel;have O4:j<=s.size:=(by have:=HS.out;omega);by_cases hlt:j<0+m.length
  ·by_cases h9:j=0+9
   ·have DD:j<s.size:=(by have:=HS.out;omega);obtain⟨c,e,d,-⟩:=hm.digit DD hj0 hlt;have d1:=d.1;have Cy:((c.toNat:Int) != 47)=true:=(by rw [bne_iff_ne];omega);have Ge:(((j:Int)) == 9)=true:=(by rw [beq_iff_eq];omega);have Gj:(j:Int)<(s.size:Int):=(by omega);have Eo:(0:Int)<=(j:Int):=(by omega);have HV:Hid (ER false m m2=.tuple #[.int .i64 0,.int .i64 0,.bool false]):=AqH (QK (.inl (by omega)));clear h9 d d1;go_wp2;go_ret3;exact⟨IF HV.out,rfl⟩
   ·obtain⟨c,v,DD,e,d1,d2,Cy,hv,EN,hn⟩:=hm.digit' hj0 hlt (by omega);have Ge:(((j:Int)) == 9)=false:=(by rw [beq_eq_false_iff_ne];omega);have Gj:(j:Int)<(s.size:Int):=(by omega);have Eo:(0:Int)<=(j:Int):=(by omega);rw [←hv];have HN:=AqH hn;clear hv hn;go_wp2
    go_round
    case rel=>exact⟨j+1,by omega,by omega,by omega,rfl,by go_num,by rw [HN.out]⟩
    case measure=>simp [intOf];omega
  ·have Cb:j=0+m.length:=(by omega);have ht:m.take (j-0)=m:=by rw [Cb];simp
   have EN:((val m:Nat):Int)<=999999999:=by have h1:=GR hm.all;have h2:10^m.length<=10^9:=Nat.pow_le_pow_right (by omega) (by omega);have h3:(10:Nat)^9=1000000000:=(by decide);omega
   have CJ:m.length<=9:=(by omega);rw [ht];have Eo:(0:Int)<=(j:Int):=(by omega);have DD:j<s.size:=(by have:=HS.out;omega);have Gj:(j:Int)<(s.size:Int):=(by omega);obtain⟨c,hc⟩:=AqG (47:UInt8);have e:s[j]=c:=(by rw [hc];obtain⟨_,e⟩:=hq;simp only [Cb];exact e);have Cy:((c.toNat:Int) != 47)=false:=(by rw [hc];rfl);have CW:((j:Int) == (s.size:Int))=false:=(by rw [beq_eq_false_iff_ne];omega);have hsz:s.size=j+1+m2.length:=(by have:=HS.out;omega);have DN:=AqH hsz;rw [←Cb]at Fo;have hjb:j<=0+9:=Tc;clear ht Cb hlt hc hsz;go_wp2;clear Cy e CW
   go_loop [2,3,5] (fun z n i=>∃k:Nat,j+1<=k/\k<=j+1+m2.length/\k<=j+1+9/\z=.int .i64 ((val m:Int))/\i=.int .i64 (k:Nat)/\n=.int .i64 (val (m2.take (k-(j+1))):Nat)) (fun _ _ i=>s.size-(intOf i).toNat)
   case atStart=>exact⟨j+1,by omega,by omega,by omega,rfl,by go_num,by simp [FS]⟩
   case round=>
    obtain⟨k,hk0,BH,O5,rfl,rfl,rfl⟩:=hrel;have fC:k<=s.size:=(by have:=DN.out;omega);by_cases hlt2:k<j+1+m2.length
    ·by_cases h9:k=j+1+9
     ·have EH:k<s.size:=(by have:=DN.out;omega);have Ge:((k:Int)-((j:Int)+1) == 9)=true:=(by rw [beq_iff_eq];omega);have Tj:(k:Int)<(s.size:Int):=(by omega);have Td:(0:Int)<=(k:Int):=(by omega);have HV:Hid (ER false m m2=.tuple #[.int .i64 0,.int .i64 0,.bool false]):=AqH (QK (.inr (by omega)));clear h9;go_wp2;go_ret3;exact⟨IF HV.out,rfl⟩
     ·obtain⟨c,v,EH,e,d1,d2,Cy,hv,iI,hn⟩:=Fo.digit' hk0 hlt2 (by omega);have Ge:((k:Int)-((j:Int)+1) == 9)=false:=(by rw [beq_eq_false_iff_ne];omega);have Tj:(k:Int)<(s.size:Int):=(by omega);have Td:(0:Int)<=(k:Int):=(by omega);rw [←hv];have HN:=AqH hn;clear hv hn Cy;go_wp2
      go_round
      case rel=>exact⟨k+1,by omega,by omega,by omega,rfl,by go_num,by rw [HN.out]⟩
      case measure=>simp [intOf];omega
    ·have Jk:k=j+1+m2.length:=(by omega);have GF:m2.take (k-(j+1))=m2:=(by rw [Jk];simp);have HV:Hid (ER false m m2=.tuple #[.int .i64 ((val m:Int)),.int .i64 (val m2:Nat),.bool true]):=AqH (Yd CJ (by omega));have hle:(s.size:Int)<=(k:Int):=(by have:=DN.out;omega);rw [GF];clear GF Jk hlt2;go_wp2;go_ret3;exact⟨IF HV.out,rfl⟩
theorem AlB(s:ByteArray)(m:Bs)(hm:Seg s 1 m)(hs:s.size=1+m.length)(hmax:s.size<=100000)(h0:0<m.length)(hc:∃(h:0<s.size),s[0]=45)(w:World) :
  Calls Tryz.prog 143 #[.string s] w (fun e w'=>e=.returned (ER true m [49])/\w=w'):=by
 have hp:(0:Int)<(s.size:Int):=(by omega);obtain⟨hs0,e0⟩:=hc;obtain⟨c0,hc0⟩:=AqG (45:UInt8);rw [←hc0]at e0;have hc:((c0.toNat:Int) == 45)=true:=(by rw [hc0];rfl);clear hc0;have HS:=AqH hs;clear hs;go_enter Tryz.func143,Tryz.ntmps143;go_wp2;clear hc e0 hp
 go_loop [2,3,5] (fun n z i=>∃j:Nat,1<=j/\j<=1+m.length/\j<=1+9/\z=.int .i64 0/\i=.int .i64 (j:Nat)/\n=.int .i64 (val (m.take (j-1)):Nat)) (fun _ _ i=>s.size-(intOf i).toNat)
 case atStart=>exact⟨1,by omega,by omega,by omega,rfl,rfl,by simp [FS]⟩
 case round=>
  obtain⟨j,hj0,Gh,Tc,rfl,rfl,rfl⟩:=hrel;have O4:j<=s.size:=(by have:=HS.out;omega);by_cases hlt:j<1+m.length
  ·by_cases h9:j=1+9
   ·have DD:j<s.size:=(by have:=HS.out;omega);obtain⟨c,e,d,-⟩:=hm.digit DD hj0 hlt;have d1:=d.1;have Cy:((c.toNat:Int) != 47)=true:=(by rw [bne_iff_ne];omega);have Ge:(((j:Int)-1) == 9)=true:=(by rw [beq_iff_eq];omega);have Gj:(j:Int)<(s.size:Int):=(by omega);have Eo:(0:Int)<=(j:Int):=(by omega);have HV:Hid (ER true m [49]=.tuple #[.int .i64 0,.int .i64 0,.bool false]):=AqH (QK (.inl (by omega)));clear h9 d d1;go_wp2;go_ret3;exact⟨IF HV.out,rfl⟩
   ·obtain⟨c,v,DD,e,d1,d2,Cy,hv,EN,hn⟩:=hm.digit' hj0 hlt (by omega);have Ge:(((j:Int)-1) == 9)=false:=(by rw [beq_eq_false_iff_ne];omega);have Gj:(j:Int)<(s.size:Int):=(by omega);have Eo:(0:Int)<=(j:Int):=(by omega);rw [←hv];have HN:=AqH hn;clear hv hn;go_wp2
    go_round
    case rel=>exact⟨j+1,by omega,by omega,by omega,rfl,by go_num,by rw [HN.out]⟩
    case measure=>simp [intOf];omega
  ·have Cb:j=1+m.length:=(by omega);have ht:m.take (j-1)=m:=by rw [Cb];simp
   have EN:((val m:Nat):Int)<=999999999:=by have h1:=GR hm.all;have h2:10^m.length<=10^9:=Nat.pow_le_pow_right (by omega) (by omega);have h3:(10:Nat)^9=1000000000:=(by decide);omega
   have CJ:m.length<=9:=(by omega);rw [ht];have Eo:(0:Int)<=(j:Int):=(by omega);have hle:(s.size:Int)<=(j:Int):=(by have:=HS.out;omega);have CW:((j:Int) == (s.size:Int))=true:=(by rw [beq_iff_eq];have:=HS.out;omega);have HV:Hid (ER true m [49]=.tuple #[.int .i64 (-(val m:Int)),.int .i64 1,.bool true]):=AqH (Yd CJ (by simp));clear ht Cb hlt;go_wp2;go_ret3;exact⟨IF HV.out,rfl⟩
theorem Al9(s:ByteArray)(m m2:Bs)(hm:Seg s 1 m)(Fo:Seg s (1+m.length+1) m2)(hs:s.size=1+m.length+1+m2.length)(h2:0<m2.length)(hq:∃h:1+m.length<s.size,s[1+m.length]=47)(hmax:s.size<=100000)(h0:0<m.length)(hc:∃(h:0<s.size),s[0]=45)(w:World) :
  Calls Tryz.prog 143 #[.string s] w (fun e w'=>e=.returned (ER true m m2)/\w=w'):=by
 have hp:(0:Int)<(s.size:Int):=(by omega);obtain⟨hs0,e0⟩:=hc;obtain⟨c0,hc0⟩:=AqG (45:UInt8);rw [←hc0]at e0;have hc:((c0.toNat:Int) == 45)=true:=(by rw [hc0];rfl);clear hc0;have HS:=AqH hs;clear hs;go_enter Tryz.func143,Tryz.ntmps143;go_wp2;clear hc e0 hp
 go_loop [2,3,5] (fun n z i=>∃j:Nat,1<=j/\j<=1+m.length/\j<=1+9/\z=.int .i64 0/\i=.int .i64 (j:Nat)/\n=.int .i64 (val (m.take (j-1)):Nat)) (fun _ _ i=>s.size-(intOf i).toNat)
 case atStart=>exact⟨1,by omega,by omega,by omega,rfl,rfl,by simp [FS]⟩
 case round=>
  obtain⟨j,hj0,Gh,Tc,rfl,rfl,rfl⟩:=hrel;have O4:j<=s.size:=(by have:=HS.out;omega);by_cases hlt:j<1+m.length
  ·by_cases h9:j=1+9
   ·have DD:j<s.size:=(by have:=HS.out;omega);obtain⟨c,e,d,-⟩:=hm.digit DD hj0 hlt;have d1:=d.1;have Cy:((c.toNat:Int) != 47)=true:=(by rw [bne_iff_ne];omega);have Ge:(((j:Int)-1) == 9)=true:=(by rw [beq_iff_eq];omega);have Gj:(j:Int)<(s.size:Int):=(by omega);have Eo:(0:Int)<=(j:Int):=(by omega);have HV:Hid (ER true m m2=.tuple #[.int .i64 0,.int .i64 0,.bool false]):=AqH (QK (.inl (by omega)));clear h9 d d1;go_wp2;go_ret3;exact⟨IF HV.out,rfl⟩
   ·obtain⟨c,v,DD,e,d1,d2,Cy,hv,EN,hn⟩:=hm.digit' hj0 hlt (by omega);have Ge:(((j:Int)-1) == 9)=false:=(by rw [beq_eq_false_iff_ne];omega);have Gj:(j:Int)<(s.size:Int):=(by omega);have Eo:(0:Int)<=(j:Int):=(by omega);rw [←hv];have HN:=AqH hn;clear hv hn;go_wp2
    go_round
    case rel=>exact⟨j+1,by omega,by omega,by omega,rfl,by go_num,by rw [HN.out]⟩
    case measure=>simp [intOf];omega
  ·have Cb:j=1+m.length:=(by omega);have ht:m.take (j-1)=m:=by rw [Cb];simp
   have EN:((val m:Nat):Int)<=999999999:=by have h1:=GR hm.all;have h2:10^m.length<=10^9:=Nat.pow_le_pow_right (by omega) (by omega);have h3:(10:Nat)^9=1000000000:=(by decide);omega
   have CJ:m.length<=9:=(by omega);rw [ht];have Eo:(0:Int)<=(j:Int):=(by omega);have DD:j<s.size:=(by have:=HS.out;omega);have Gj:(j:Int)<(s.size:Int):=(by omega);obtain⟨c,hc⟩:=AqG (47:UInt8);have e:s[j]=c:=(by rw [hc];obtain⟨_,e⟩:=hq;simp only [Cb];exact e);have Cy:((c.toNat:Int) != 47)=false:=(by rw [hc];rfl);have CW:((j:Int) == (s.size:Int))=false:=(by rw [beq_eq_false_iff_ne];omega);have hsz:s.size=j+1+m2.length:=(by have:=HS.out;omega);have DN:=AqH hsz;rw [←Cb]at Fo;have hjb:j<=1+9:=Tc;clear ht Cb hlt hc hsz;go_wp2;clear Cy e CW
   go_loop [2,3,5] (fun z n i=>∃k:Nat,j+1<=k/\k<=j+1+m2.length/\k<=j+1+9/\z=.int .i64 (-(val m:Int))/\i=.int .i64 (k:Nat)/\n=.int .i64 (val (m2.take (k-(j+1))):Nat)) (fun _ _ i=>s.size-(intOf i).toNat)
   case atStart=>exact⟨j+1,by omega,by omega,by omega,rfl,by go_num,by simp [FS]⟩
   case round=>
    obtain⟨k,hk0,BH,O5,rfl,rfl,rfl⟩:=hrel;have fC:k<=s.size:=(by have:=DN.out;omega);by_cases hlt2:k<j+1+m2.length
    ·by_cases h9:k=j+1+9
     ·have EH:k<s.size:=(by have:=DN.out;omega);have Ge:((k:Int)-((j:Int)+1) == 9)=true:=(by rw [beq_iff_eq];omega);have Tj:(k:Int)<(s.size:Int):=(by omega);have Td:(0:Int)<=(k:Int):=(by omega);have HV:Hid (ER true m m2=.tuple #[.int .i64 0,.int .i64 0,.bool false]):=AqH (QK (.inr (by omega)));clear h9;go_wp2;go_ret3;exact⟨IF HV.out,rfl⟩
     ·obtain⟨c,v,EH,e,d1,d2,Cy,hv,iI,hn⟩:=Fo.digit' hk0 hlt2 (by omega);have Ge:((k:Int)-((j:Int)+1) == 9)=false:=(by rw [beq_eq_false_iff_ne];omega);have Tj:(k:Int)<(s.size:Int):=(by omega);have Td:(0:Int)<=(k:Int):=(by omega);rw [←hv];have HN:=AqH hn;clear hv hn Cy;go_wp2
      go_round
      case rel=>exact⟨k+1,by omega,by omega,by omega,rfl,by go_num,by rw [HN.out]⟩
      case measure=>simp [intOf];omega
    ·have Jk:k=j+1+m2.length:=(by omega);have GF:m2.take (k-(j+1))=m2:=(by rw [Jk];simp);have HV:Hid (ER true m m2=.tuple #[.int .i64 (-(val m:Int)),.int .i64 (val m2:Nat),.bool true]):=AqH (Yd CJ (by omega));have hle:(s.size:Int)<=(k:Int):=(by have:=DN.out;omega);rw [GF];clear GF Jk hlt2;go_wp2;go_ret3;exact⟨IF HV.out,rfl⟩
theorem NV(l:Bs)(j:Nat)(h:j<(⟨l.toArray⟩:ByteArray).size):(⟨l.toArray⟩:ByteArray)[j]=l.getD j 0:=by
 have h':j<l.length:=(by simpa [ByteArray.size]using h);rw [ByteArray.getElem_eq_getElem_data];simp [List.getD,h']
theorem Cp(l:Bs):(⟨l.toArray⟩:ByteArray).size=l.length:=by simp [ByteArray.size]
theorem IH(pre m suf:Bs)(hm:BD m):Seg ⟨(pre++m++suf).toArray⟩ pre.length m:=
 ⟨by rw [Cp];simp,hm,fun j h h1 h2=>by
  rw [NV];simp only [List.getD_eq_getElem?_getD]
  rw [List.append_assoc,List.getElem?_append_right h1,List.getElem?_append_left (by omega)]⟩
theorem Al7(q:Rat):QI q=ER (decide (q<0)) (D q.num.natAbs) (D q.den):=by
 unfold QI ER
 split
 ·rw [GQ,GQ];by_cases h:q<0
  ·have:=Jw.2 h;simp only [h,decide_true,if_true]
   congr 4;omega
  ·have:¬q.num<0:=fun k=>h (Jw.1 k);simp only [h,decide_false,Bool.false_eq_true,if_false]
   congr 4;omega
 ·rfl
theorem U2:D 1 = [49]:=by rw [F7 (by omega)];rfl
theorem Mr{z:Int} : (z<0→I z=45::D z.natAbs)/\(¬z<0→I z=D z.natAbs):=by
 constructor
 ·intro h
  rcases DO z with⟨n,rfl,e⟩|⟨n,hn,rfl,e⟩
  ·omega
  ·rw [e];simp
 ·intro h
  rcases DO z with⟨n,rfl,e⟩|⟨n,hn,rfl,e⟩
  ·rw [e];simp
  ·omega
theorem AlR(q:Rat)(hl:(R q).length<=100000)(w:World):Calls Tryz.prog 143 #[S (R q)] w (fun e w'=>e=.returned (QI q)/\w=w'):=by
 rw [Al7];have hp:=OZ q.num.natAbs;have I7:=OZ q.den;by_cases hd:q.den=1
 ·rw [NS hd]at hl ⊢;rw [hd,U2];by_cases hn:q.num<0
  ·rw [Mr.1 hn]at hl ⊢;rw [decide_eq_true (Jw.1 hn)];have h:=IH [45] (D q.num.natAbs) [] (C3 _);simp only [List.append_nil,List.singleton_append,List.length_singleton]at h;exact AlB _ _ h (by rw [Cp];simp;omega) (by rw [Cp];exact hl) hp ⟨by rw [Cp];simp,rfl⟩ w
  ·rw [Mr.2 hn]at hl ⊢;rw [decide_eq_false (fun k=>hn (Jw.2 k))];have h:=IH [] (D q.num.natAbs) [] (C3 _);simp only [List.append_nil,List.nil_append,List.length_nil]at h;exact AlA _ _ h (by rw [Cp];simp) (by rw [Cp];exact hl) hp w
 ·rw [Pm hd]at hl ⊢;by_cases hn:q.num<0
  ·rw [Mr.1 hn]at hl ⊢;rw [decide_eq_true (Jw.1 hn)];have h:=IH [45] (D q.num.natAbs) (47::D q.den) (C3 _);have h2:=IH (45::D q.num.natAbs ++ [47]) (D q.den) [] (C3 _);simp only [List.append_nil,List.length_singleton,List.append_assoc,List.cons_append]at h h2;rw [show (45::(D q.num.natAbs ++ [47])).length=1+(D q.num.natAbs).length+1 by simp;omega]at h2;exact Al9 _ _ _ h h2 (by rw [Cp];simp;omega) I7 ⟨by rw [Cp];simp;omega,by rw [NV];simp [List.getD,Nat.add_comm 1]⟩ (by rw [Cp];exact hl) hp ⟨by rw [Cp];simp,rfl⟩ w
  ·rw [Mr.2 hn]at hl ⊢;rw [decide_eq_false (fun k=>hn (Jw.2 k))];have h:=IH [] (D q.num.natAbs) (47::D q.den) (C3 _);have h2:=IH (D q.num.natAbs ++ [47]) (D q.den) [] (C3 _);simp only [List.append_nil,List.nil_append,List.length_nil,List.append_assoc,List.cons_append]at h h2;rw [show List.length (D q.num.natAbs ++ [(47:UInt8)])=0+(D q.num.natAbs).length+1 by simp]at h2;exact Al8 _ _ _ h h2 (by rw [Cp];simp;omega) I7 ⟨by rw [Cp];simp,by rw [NV];simp [List.getD]⟩ (by rw [Cp];exact hl) hp w
end Go.Proofs.YtjalkoacphhgdaaGreatDoor
