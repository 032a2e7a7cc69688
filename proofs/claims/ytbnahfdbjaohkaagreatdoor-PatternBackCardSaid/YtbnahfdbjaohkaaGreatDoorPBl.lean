/- For every input the law PatternBack returns true. Part 12 of 23. No condition. -/
import Derived.Test.YtbnahfdbjaohkaaGreatDoorPBk
import Derived.Shelf.Strings.Builder1
import Derived.Shelf.Strings.Builder2
import Derived.Shelf.Strings.OnBuilder
import Derived.Shelf.Small.Strs
import Derived.Shelf.Small.Wraps
import Derived.Shelf.Strings.BuilderF
import Derived.Shelf.Strings.BuilderK
import Derived.Shelf.Utf8.RuneCount
import Derived.Shelf.Strings.Builder2Cap
import Derived.Shelf.Strconv.Atoi
import Derived.Shelf.Strconv.Itoa0
import Derived.Shelf.Strconv.Itoa1
import Derived.Shelf.LaysM
import Derived.Shelf.Strconv.Itoa2
import Derived.Shelf.Strconv.AtoiErrFast
import Derived.Shelf.Strconv.ParseIntEmpty
import Derived.Shelf.Strconv.AtoiFail
import Derived.Shelf.Strconv.Clone
import Derived.Shelf.Strconv.SyntaxError
import Derived.Shelf.LaysC
import Derived.Shelf.Strconv.ToError
import Derived.Shelf.Strconv.AtoiErr
import Derived.Shelf.Strconv.Lower
import Derived.Shelf.Strconv.ParseUint10
import Derived.Shelf.Strconv.ParseUint10Empty
import Derived.Shelf.Strconv.ParseUint10Any
import Derived.Shelf.Strconv.ParseInt10
import Derived.Shelf.Strconv.AtoiLong
import Derived.Shelf.Strconv.AtoiInnerAll
import Derived.Shelf.Strconv.RangeError
import Derived.Shelf.Strconv.ToErrorRange
import Derived.Shelf.Strconv.AtoiAll
import Derived.Shelf.Strconv.ParseUintEmpty
import Derived.Shelf.Strconv.ParseUint10b64
import Derived.Shelf.Strconv.ParseUint10b32
import Derived.Shelf.Strconv.ParseUint10b16
import Derived.Shelf.Strconv.ParseUint10b8
import Derived.Shelf.Strings.Search1
import Derived.Shelf.Strings.Search2
import Derived.Shelf.Strings.Search3
import Derived.Shelf.Strings.Cut
import Derived.Shelf.Strings.Count
import Derived.Shelf.Strings.Shaped
import Derived.Shelf.Strings.LastIndex
import Derived.Shelf.Strings.Prefix
import Derived.Shelf.Strings.Split
import Derived.Shelf.Strings.Fields
import Derived.Shelf.Strings.SplitShaped
import Derived.Shelf.Unicode.Latin
import Derived.Shelf.Strings.RuneCount
import Derived.Shelf.Unicode.Is16White
import Derived.Shelf.Unicode.IsSpaceAny
import Derived.Shelf.Unicode.Is16WhiteD
import Derived.Shelf.Unicode.Is16Any
import Derived.Shelf.Unicode.Is32Any
import Derived.Shelf.Unicode.ExclAny
import Derived.Shelf.Slices.Turned
import Derived.Ground.Names2Prog
import Derived.Shelf.Slices.Clone
import Derived.Ground.SlgnProg
import Derived.Shelf.SlicesE.Clone
set_option linter.unusedVariables false
set_option linter.unnecessarySimpa false
set_option linter.unusedSimpArgs false
set_option maxRecDepth 100000
set_option maxHeartbeats 4000000
namespace Go.Proofs
open Go.Shelf
def Tryz.lays156_ren:Go.Shelf.Ren:=⟨fun|156=>27|165=>54|166=>55|169=>42|240=>107|241=>108|276=>170|277=>171|n=>n,fun|31=>30|9=>9|3=>3|4=>4|0=>0|20=>20|72=>107|76=>118|70=>104|37=>105|75=>117|127=>146|164=>201|5=>5|80=>98|n=>n,fun|n=>n⟩
theorem Tryz.lays156:Go.Proofs.Lays.n156 Tryz.prog Tryz.lays156_ren:={
 mixed:=by kernel_rfl
 f156:=Tryz.func27.trans (congrArg some (by kernel_rfl))
 f165:=Tryz.func54.trans (congrArg some (by kernel_rfl))
 f166:=Tryz.func55.trans (congrArg some (by kernel_rfl))
 f169:=Tryz.func42.trans (congrArg some (by kernel_rfl))
 f240:=Tryz.func107.trans (congrArg some (by kernel_rfl))
 f241:=Tryz.func108.trans (congrArg some (by kernel_rfl))
 f276:=Tryz.func170.trans (congrArg some (by kernel_rfl))
 f277:=Tryz.func171.trans (congrArg some (by kernel_rfl))
 t0:=Tryz.underlying0
 a0:=Tryz.isAgg0
 z0:=Tryz.sizeOf0
 v0:=Tryz.zeroValue0
 t3:=Tryz.underlying3
 a3:=Tryz.isAgg3
 z3:=Tryz.sizeOf3
 v3:=Tryz.zeroValue3
 t4:=Tryz.underlying4
 a4:=Tryz.isAgg4
 z4:=Tryz.sizeOf4
 v4:=Tryz.zeroValue4
 t9:=Tryz.underlying9
 a9:=Tryz.isAgg9
 z9:=Tryz.sizeOf9
 v9:=Tryz.zeroValue9
 t20:=Tryz.underlying20
 a20:=Tryz.isAgg20
 z20:=Tryz.sizeOf20
 v20:=Tryz.zeroValue20
 t31:=Tryz.underlying30
 a31:=Tryz.isAgg30
 z31:=Tryz.sizeOf30
 v31:=Tryz.zeroValue30
 t37:=Tryz.underlying105
 a37:=Tryz.isAgg105
 z37:=Tryz.sizeOf105
 v37:=Tryz.zeroValue105
 t70:=Tryz.underlying104
 a70:=Tryz.isAgg104
 z70:=Tryz.sizeOf104
 v70:=Tryz.zeroValue104
 t72:=Tryz.underlying107
 a72:=Tryz.isAgg107
 z72:=Tryz.sizeOf107
 v72:=Tryz.zeroValue107
 t75:=Tryz.underlying117
 a75:=Tryz.isAgg117
 z75:=Tryz.sizeOf117
 v75:=Tryz.zeroValue117
 t76:=Tryz.underlying118
 a76:=Tryz.isAgg118
 z76:=Tryz.sizeOf118
 v76:=Tryz.zeroValue118
 t127:=Tryz.underlying146
 a127:=Tryz.isAgg146
 z127:=Tryz.sizeOf146
 v127:=Tryz.zeroValue146
 t164:=Tryz.underlying201
 a164:=Tryz.isAgg201
 z164:=Tryz.sizeOf201
 v164:=Tryz.zeroValue201}
theorem Tryz.Builder_Extra_156:Builder.Extra Tryz.prog Tryz.lays156_ren:={
 sizeBuilder:=by kernel_rfl
 liesBuilder:=by kernel_rfl
 t5:=Tryz.underlying5
 a5:=Tryz.isAgg5
 z5:=Tryz.sizeOf5
 v5:=Tryz.zeroValue5
 infoByte:=by kernel_rfl
 cellsByte:=by kernel_rfl
 sizeByte:=by kernel_rfl
 neB5:=by decide}
open Go.RowKit in
theorem Tryz.strings_Join_none(a:Option Addr)(c:Nat)(sep:ByteArray)(w:World):
 Calls Tryz.prog 27 #[.slice a 0 c,.string sep] w fun e w'=>e=.returned (.string ⟨#[]⟩)∧w'=w:=Any.strings_Join_none Tryz.lays156 Tryz.Builder_Extra_156 a c sep w
open Go.RowKit in
theorem Tryz.strings_Join(bk o c:Nat)(xs:List ByteArray)(sep:ByteArray)(w:World)(hcells: ∀(j:Nat) x,xs[j]? =some x->w.cell? ⟨bk,o+j,none⟩=some (.string x))(hbk:bk<w.heap.size)(hN:xs.length<=140737488355328)(hcap:xs.length<=c)(hlen:(Lib.join (xs.map (·.data.toList)) sep.data.toList).length<=140737488355328):
 Calls Tryz.prog 27 #[.slice (some ⟨bk,o,none⟩) xs.length c,.string sep] w fun e w'=>e=.returned (.string ⟨(Lib.join (xs.map (·.data.toList)) sep.data.toList).toArray⟩)∧Below w.heap.size w w':=Any.strings_Join Tryz.lays156 Tryz.Builder_Extra_156 bk o c xs sep w hcells hbk hN hcap hlen
def Tryz.laysM171_ren:Go.Shelf.Ren:=⟨fun|171=>26|243=>53|246=>106|283=>166|284=>167|285=>168|286=>169|129=>216|317=>215|318=>217|319=>218|320=>219|337=>240|338=>241|n=>n,fun|3=>3|9=>9|2=>2|4=>4|171=>196|0=>0|53=>133|37=>105|5=>5|173=>199|212=>228|51=>229|20=>20|213=>230|46=>214|232=>255|233=>256|n=>n,fun|17=>1|18=>6|19=>7|n=>n⟩
theorem Tryz.laysM171:Go.Proofs.LaysM.n171 Tryz.prog Tryz.laysM171_ren:={
 mixed:=by kernel_rfl
 f129:=Tryz.func216.trans (congrArg some (by kernel_rfl))
 f171:=Tryz.func26.trans (congrArg some (by kernel_rfl))
 f243:=Tryz.func53.trans (congrArg some (by kernel_rfl))
 f246:=Tryz.func106.trans (congrArg some (by kernel_rfl))
 f283:=Tryz.func166.trans (congrArg some (by kernel_rfl))
 f284:=Tryz.func167.trans (congrArg some (by kernel_rfl))
 f285:=Tryz.func168.trans (congrArg some (by kernel_rfl))
 f286:=Tryz.func169.trans (congrArg some (by kernel_rfl))
 f317:=Tryz.func215.trans (congrArg some (by kernel_rfl))
 f318:=Tryz.func217.trans (congrArg some (by kernel_rfl))
 f319:=Tryz.func218.trans (congrArg some (by kernel_rfl))
 f320:=Tryz.func219.trans (congrArg some (by kernel_rfl))
 f337:=Tryz.func240.trans (congrArg some (by kernel_rfl))
 f338:=Tryz.func241.trans (congrArg some (by kernel_rfl))
 t0:=Tryz.underlying0
 a0:=Tryz.isAgg0
 z0:=Tryz.sizeOf0
 v0:=Tryz.zeroValue0
 t2:=Tryz.underlying2
 a2:=Tryz.isAgg2
 z2:=Tryz.sizeOf2
 v2:=Tryz.zeroValue2
 t3:=Tryz.underlying3
 a3:=Tryz.isAgg3
 z3:=Tryz.sizeOf3
 v3:=Tryz.zeroValue3
 t4:=Tryz.underlying4
 a4:=Tryz.isAgg4
 z4:=Tryz.sizeOf4
 v4:=Tryz.zeroValue4
 t5:=Tryz.underlying5
 a5:=Tryz.isAgg5
 z5:=Tryz.sizeOf5
 v5:=Tryz.zeroValue5
 t9:=Tryz.underlying9
 a9:=Tryz.isAgg9
 z9:=Tryz.sizeOf9
 v9:=Tryz.zeroValue9
 t20:=Tryz.underlying20
 a20:=Tryz.isAgg20
 z20:=Tryz.sizeOf20
 v20:=Tryz.zeroValue20
 t37:=Tryz.underlying105
 a37:=Tryz.isAgg105
 z37:=Tryz.sizeOf105
 v37:=Tryz.zeroValue105
 t46:=Tryz.underlying214
 a46:=Tryz.isAgg214
 z46:=Tryz.sizeOf214
 v46:=Tryz.zeroValue214
 t51:=Tryz.underlying229
 a51:=Tryz.isAgg229
 z51:=Tryz.sizeOf229
 v51:=Tryz.zeroValue229
 t53:=Tryz.underlying133
 a53:=Tryz.isAgg133
 z53:=Tryz.sizeOf133
 v53:=Tryz.zeroValue133
 t171:=Tryz.underlying196
 a171:=Tryz.isAgg196
 z171:=Tryz.sizeOf196
 v171:=Tryz.zeroValue196
 t173:=Tryz.underlying199
 a173:=Tryz.isAgg199
 z173:=Tryz.sizeOf199
 v173:=Tryz.zeroValue199
 t212:=Tryz.underlying228
 a212:=Tryz.isAgg228
 z212:=Tryz.sizeOf228
 v212:=Tryz.zeroValue228
 t213:=Tryz.underlying230
 a213:=Tryz.isAgg230
 z213:=Tryz.sizeOf230
 t232:=Tryz.underlying255
 a232:=Tryz.isAgg255
 z232:=Tryz.sizeOf255
 v232:=Tryz.zeroValue255
 t233:=Tryz.underlying256
 a233:=Tryz.isAgg256
 z233:=Tryz.sizeOf256
 v233:=Tryz.zeroValue256
 g17:=by kernel_rfl
 g18:=by kernel_rfl
 g19:=by kernel_rfl
 i0:=by kernel_rfl
 i2:=by kernel_rfl
 i3:=by kernel_rfl
 i4:=by kernel_rfl
 i5:=by kernel_rfl
 i9:=by kernel_rfl
 i20:=by kernel_rfl
 i37:=by kernel_rfl
 i46:=by kernel_rfl
 i51:=by kernel_rfl
 i53:=by kernel_rfl
 i171:=by kernel_rfl
 i173:=by kernel_rfl
 i212:=by kernel_rfl
 i232:=by kernel_rfl
 i233:=by kernel_rfl
 m17:=by kernel_rfl
 m18:=by kernel_rfl
 m19:=by kernel_rfl}
open Go.RowKit Go.Sort Go.Lib in
theorem Tryz.strconv_Itoa (n:Int) (h0: -9223372036854775808≤n) (h1:n≤9223372036854775807) (w:World) (htab:Lib.TabIs Tryz.prog w "internal/strconv.uint64pow10" .u64 Lib.pow10Tab):
 Calls Tryz.prog 26 #[.int .i64 n] w fun e w'=>e=.returned (.string ⟨(Lib.itoa n).toArray⟩)∧∃k os,w'=grow (w.drewN k) os:=Any.strconv_Itoa Tryz.laysM171 n h0 h1 w htab
def Tryz.laysC172_ren:Go.Shelf.Ren:=⟨fun|172=>148|244=>204|245=>147|247=>232|279=>200|280=>201|281=>202|282=>203|287=>146|316=>230|171=>26|205=>231|321=>198|322=>199|243=>53|246=>106|283=>166|284=>167|285=>168|286=>169|129=>216|317=>215|318=>217|319=>218|320=>219|337=>240|338=>241|n=>n,fun|9=>9|3=>3|75=>117|76=>118|4=>4|5=>5|167=>215|37=>105|0=>0|85=>240|2=>2|168=>217|53=>133|175=>134|46=>214|210=>238|127=>146|145=>249|143=>247|21=>21|171=>196|173=>199|212=>228|51=>229|20=>20|213=>230|232=>255|233=>256|80=>98|n=>n,fun|15=>2|16=>3|17=>1|18=>6|19=>7|n=>n⟩
theorem Tryz.laysC172:Go.Proofs.LaysC.n172 Tryz.prog Tryz.laysC172_ren:={
 mixed:=by kernel_rfl
 f129:=Tryz.func216.trans (congrArg some (by kernel_rfl))
 f171:=Tryz.func26.trans (congrArg some (by kernel_rfl))
 f172:=Tryz.func148.trans (congrArg some (by kernel_rfl))
 f205:=Tryz.func231.trans (congrArg some (by kernel_rfl))
 f243:=Tryz.func53.trans (congrArg some (by kernel_rfl))
 f244:=Tryz.func204.trans (congrArg some (by kernel_rfl))
 f245:=Tryz.func147.trans (congrArg some (by kernel_rfl))
 f246:=Tryz.func106.trans (congrArg some (by kernel_rfl))
 f247:=Tryz.func232.trans (congrArg some (by kernel_rfl))
 f279:=Tryz.func200.trans (congrArg some (by kernel_rfl))
 f280:=Tryz.func201.trans (congrArg some (by kernel_rfl))
 f281:=Tryz.func202.trans (congrArg some (by kernel_rfl))
 f282:=Tryz.func203.trans (congrArg some (by kernel_rfl))
 f283:=Tryz.func166.trans (congrArg some (by kernel_rfl))
 f284:=Tryz.func167.trans (congrArg some (by kernel_rfl))
 f285:=Tryz.func168.trans (congrArg some (by kernel_rfl))
 f286:=Tryz.func169.trans (congrArg some (by kernel_rfl))
 f287:=Tryz.func146.trans (congrArg some (by kernel_rfl))
 f316:=Tryz.func230.trans (congrArg some (by kernel_rfl))
 f317:=Tryz.func215.trans (congrArg some (by kernel_rfl))
 f318:=Tryz.func217.trans (congrArg some (by kernel_rfl))
 f319:=Tryz.func218.trans (congrArg some (by kernel_rfl))
 f320:=Tryz.func219.trans (congrArg some (by kernel_rfl))
 f321:=Tryz.func198.trans (congrArg some (by kernel_rfl))
 f322:=Tryz.func199.trans (congrArg some (by kernel_rfl))
 f337:=Tryz.func240.trans (congrArg some (by kernel_rfl))
 f338:=Tryz.func241.trans (congrArg some (by kernel_rfl))
 t0:=Tryz.underlying0
 a0:=Tryz.isAgg0
 z0:=Tryz.sizeOf0
 v0:=Tryz.zeroValue0
 t2:=Tryz.underlying2
 a2:=Tryz.isAgg2
 z2:=Tryz.sizeOf2
 v2:=Tryz.zeroValue2
 t3:=Tryz.underlying3
 a3:=Tryz.isAgg3
 z3:=Tryz.sizeOf3
 v3:=Tryz.zeroValue3
 t4:=Tryz.underlying4
 a4:=Tryz.isAgg4
 z4:=Tryz.sizeOf4
 v4:=Tryz.zeroValue4
 t5:=Tryz.underlying5
 a5:=Tryz.isAgg5
 z5:=Tryz.sizeOf5
 v5:=Tryz.zeroValue5
 t9:=Tryz.underlying9
 a9:=Tryz.isAgg9
 z9:=Tryz.sizeOf9
 v9:=Tryz.zeroValue9
 t20:=Tryz.underlying20
 a20:=Tryz.isAgg20
 z20:=Tryz.sizeOf20
 v20:=Tryz.zeroValue20
 t21:=Tryz.underlying21
 a21:=Tryz.isAgg21
 z21:=Tryz.sizeOf21
 v21:=Tryz.zeroValue21
 t37:=Tryz.underlying105
 a37:=Tryz.isAgg105
 z37:=Tryz.sizeOf105
 v37:=Tryz.zeroValue105
 t46:=Tryz.underlying214
 a46:=Tryz.isAgg214
 z46:=Tryz.sizeOf214
 v46:=Tryz.zeroValue214
 t51:=Tryz.underlying229
 a51:=Tryz.isAgg229
 z51:=Tryz.sizeOf229
 v51:=Tryz.zeroValue229
 t53:=Tryz.underlying133
 a53:=Tryz.isAgg133
 z53:=Tryz.sizeOf133
 v53:=Tryz.zeroValue133
 t75:=Tryz.underlying117
 a75:=Tryz.isAgg117
 z75:=Tryz.sizeOf117
 v75:=Tryz.zeroValue117
 t76:=Tryz.underlying118
 a76:=Tryz.isAgg118
 z76:=Tryz.sizeOf118
 v76:=Tryz.zeroValue118
 t85:=Tryz.underlying240
 a85:=Tryz.isAgg240
 z85:=Tryz.sizeOf240
 v85:=Tryz.zeroValue240
 t127:=Tryz.underlying146
 a127:=Tryz.isAgg146
 z127:=Tryz.sizeOf146
 v127:=Tryz.zeroValue146
 t143:=Tryz.underlying247
 a143:=Tryz.isAgg247
 z143:=Tryz.sizeOf247
 v143:=Tryz.zeroValue247
 t145:=Tryz.underlying249
 a145:=Tryz.isAgg249
 z145:=Tryz.sizeOf249
 v145:=Tryz.zeroValue249
 t167:=Tryz.underlying215
 a167:=Tryz.isAgg215
 z167:=Tryz.sizeOf215
 v167:=Tryz.zeroValue215
 t168:=Tryz.underlying217
 a168:=Tryz.isAgg217
 z168:=Tryz.sizeOf217
 v168:=Tryz.zeroValue217
 t171:=Tryz.underlying196
 a171:=Tryz.isAgg196
 z171:=Tryz.sizeOf196
 v171:=Tryz.zeroValue196
 t173:=Tryz.underlying199
 a173:=Tryz.isAgg199
 z173:=Tryz.sizeOf199
 v173:=Tryz.zeroValue199
 t175:=Tryz.underlying134
 a175:=Tryz.isAgg134
 z175:=Tryz.sizeOf134
 v175:=Tryz.zeroValue134
 t210:=Tryz.underlying238
 a210:=Tryz.isAgg238
 z210:=Tryz.sizeOf238
 v210:=Tryz.zeroValue238
 t212:=Tryz.underlying228
 a212:=Tryz.isAgg228
 z212:=Tryz.sizeOf228
 v212:=Tryz.zeroValue228
 t213:=Tryz.underlying230
 a213:=Tryz.isAgg230
 z213:=Tryz.sizeOf230
 t232:=Tryz.underlying255
 a232:=Tryz.isAgg255
 z232:=Tryz.sizeOf255
 v232:=Tryz.zeroValue255
 t233:=Tryz.underlying256
 a233:=Tryz.isAgg256
 z233:=Tryz.sizeOf256
 v233:=Tryz.zeroValue256
 g15:=by kernel_rfl
 g16:=by kernel_rfl
 g17:=by kernel_rfl
 g18:=by kernel_rfl
 g19:=by kernel_rfl
 t80:=Tryz.underlying98
 a80:=Tryz.isAgg98
 z80:=Tryz.sizeOf98
 v80:=Tryz.zeroValue98
 i0:=by kernel_rfl
 i2:=by kernel_rfl
 i3:=by kernel_rfl
 i4:=by kernel_rfl
 i5:=by kernel_rfl
 i9:=by kernel_rfl
 i20:=by kernel_rfl
 i21:=by kernel_rfl
 i37:=by kernel_rfl
 i46:=by kernel_rfl
 i51:=by kernel_rfl
 i53:=by kernel_rfl
 i75:=by kernel_rfl
 i76:=by kernel_rfl
 i80:=by kernel_rfl
 i85:=by kernel_rfl
 i127:=by kernel_rfl
 i143:=by kernel_rfl
 i145:=by kernel_rfl
 i167:=by kernel_rfl
 i168:=by kernel_rfl
 i171:=by kernel_rfl
 i173:=by kernel_rfl
 i175:=by kernel_rfl
 i210:=by kernel_rfl
 i212:=by kernel_rfl
 i232:=by kernel_rfl
 i233:=by kernel_rfl
 m15:=by kernel_rfl
 m16:=by kernel_rfl
 m17:=by kernel_rfl
 m18:=by kernel_rfl
 m19:=by kernel_rfl
 c0:=by kernel_rfl
 c2:=by kernel_rfl
 c3:=by kernel_rfl
 c4:=by kernel_rfl
 c5:=by kernel_rfl
 c9:=by kernel_rfl
 c20:=by kernel_rfl
 c21:=by kernel_rfl
 c37:=by kernel_rfl
 c46:=by kernel_rfl
 c51:=by kernel_rfl
 c53:=by kernel_rfl
 c75:=by kernel_rfl
 c76:=by kernel_rfl
 c80:=by kernel_rfl
 c85:=by kernel_rfl
 c127:=by kernel_rfl
 c143:=by kernel_rfl
 c145:=by kernel_rfl
 c167:=by kernel_rfl
 c168:=by kernel_rfl
 c171:=by kernel_rfl
 c173:=by kernel_rfl
 c175:=by kernel_rfl
 c210:=by kernel_rfl
 c212:=by kernel_rfl
 c213:=by kernel_rfl
 c232:=by kernel_rfl
 c233:=by kernel_rfl}
open Go.RowKit in
theorem Tryz.strconv_Atoi_ok(s:ByteArray)(hmax:s.size<=9223372036854775806)(v:Int)(h:Lib.atoiAll s.data.toList=.ok v)(w:World):
 Calls Tryz.prog 148 #[.string s] w fun e w'=>e=.returned (.tuple #[.int .i64 v,.nilIface])∧(w'=w∨∃t,w'=Lib.bytesWorld w 5 t):=Any.strconv_Atoi_ok Tryz.laysC172 s hmax v h w
open Go.RowKit in
theorem Tryz.strconv_Atoi_syntax(s:ByteArray)(hlim:s.size<=281474976710656)(h:Lib.atoiAll s.data.toList=(Lib.atoiAll []))(ev:Value)(w:World)(hv:w.cell? ⟨2,0,none⟩=some ev)(hev:ev=.nilIface∨∃te pe,ev=.iface te pe):
 Calls Tryz.prog 148 #[.string s] w fun e w'=> ∃N,e=.returned (.tuple #[.int .i64 (0),.iface 217 (.pointer (some ⟨N,0,none⟩))])∧w.heap.size<=N∧w'.heap[N]? =some (.cells #[.string ⟨#[65,116,111,105]⟩,.string s,ev] 238 (0,0))∧Below w.heap.size w w':=Any.strconv_Atoi_syntax Tryz.laysC172 s hlim h ev w hv hev
open Go.RowKit in
theorem Tryz.strconv_Atoi_range(s:ByteArray)(hlim:s.size<=281474976710656)(h:Lib.atoiAll s.data.toList=.range)(ev:Value)(w:World)(hv:w.cell? ⟨3,0,none⟩=some ev)(hev:ev=.nilIface∨∃te pe,ev=.iface te pe):
 Calls Tryz.prog 148 #[.string s] w fun e w'=> ∃N,e=.returned (.tuple #[.int .i64 (Lib.atoiSat s.data.toList),.iface 217 (.pointer (some ⟨N,0,none⟩))])∧w.heap.size<=N∧w'.heap[N]? =some (.cells #[.string ⟨#[65,116,111,105]⟩,.string s,ev] 238 (0,0))∧Below w.heap.size w w':=Any.strconv_Atoi_range Tryz.laysC172 s hlim h ev w hv hev
def Tryz.lays145_ren:Go.Shelf.Ren:=⟨fun|145=>33|220=>66|219=>144|217=>172|225=>195|224=>196|267=>197|266=>220|314=>229|n=>n,fun|9=>9|4=>4|59=>95|3=>3|5=>5|46=>214|146=>235|51=>229|n=>n,fun|1=>0|n=>n⟩
theorem Tryz.lays145:Go.Proofs.Lays.n145 Tryz.prog Tryz.lays145_ren:={
 mixed:=by kernel_rfl
 f145:=Tryz.func33.trans (congrArg some (by kernel_rfl))
 f217:=Tryz.func172.trans (congrArg some (by kernel_rfl))
 f219:=Tryz.func144.trans (congrArg some (by kernel_rfl))
 f220:=Tryz.func66.trans (congrArg some (by kernel_rfl))
 f224:=Tryz.func196.trans (congrArg some (by kernel_rfl))
 f225:=Tryz.func195.trans (congrArg some (by kernel_rfl))
 f266:=Tryz.func220.trans (congrArg some (by kernel_rfl))
 f267:=Tryz.func197.trans (congrArg some (by kernel_rfl))
 f314:=Tryz.func229.trans (congrArg some (by kernel_rfl))
 t3:=Tryz.underlying3
 a3:=Tryz.isAgg3
 z3:=Tryz.sizeOf3
 v3:=Tryz.zeroValue3
 t4:=Tryz.underlying4
 a4:=Tryz.isAgg4
 z4:=Tryz.sizeOf4
 v4:=Tryz.zeroValue4
 t5:=Tryz.underlying5
 a5:=Tryz.isAgg5
 z5:=Tryz.sizeOf5
 v5:=Tryz.zeroValue5
 t9:=Tryz.underlying9
 a9:=Tryz.isAgg9
 z9:=Tryz.sizeOf9
 v9:=Tryz.zeroValue9
 t46:=Tryz.underlying214
 a46:=Tryz.isAgg214
 z46:=Tryz.sizeOf214
 v46:=Tryz.zeroValue214
 t51:=Tryz.underlying229
 a51:=Tryz.isAgg229
 z51:=Tryz.sizeOf229
 v51:=Tryz.zeroValue229
 t59:=Tryz.underlying95
 a59:=Tryz.isAgg95
 z59:=Tryz.sizeOf95
 v59:=Tryz.zeroValue95
 t146:=Tryz.underlying235
 a146:=Tryz.isAgg235
 z146:=Tryz.sizeOf235
 v146:=Tryz.zeroValue235
 g1:=by kernel_rfl}
open Go.RowKit Go.Lib in
theorem Tryz.strings_Cut(s sep:ByteArray)(m:Int)(w:World)(hs:s.size<4294967281)(hm:w.cell? ⟨0,0,none⟩=some (.int .i64 m)):
 Calls Tryz.prog 33 #[.string s,.string sep] w fun e w'=>e=.returned (.tuple #[.string ⟨(Lib.cut s.data.toList sep.data.toList).1.toArray⟩,.string ⟨(Lib.cut s.data.toList sep.data.toList).2.1.toArray⟩,.bool (Lib.cut s.data.toList sep.data.toList).2.2])∧∃n,w'=w.drewN n:=Any.strings_Cut Tryz.lays145 s sep m w hs hm
def Tryz.lays157_ren:Go.Shelf.Ren:=⟨fun|157=>214|229=>238|199=>239|261=>243|311=>244|312=>245|n=>n,fun|9=>9|31=>30|3=>3|5=>5|4=>4|119=>242|0=>0|40=>244|152=>250|21=>21|154=>252|51=>229|141=>254|196=>260|193=>257|198=>263|49=>261|194=>258|201=>266|226=>268|46=>214|227=>269|n=>n,fun|0=>4|6=>5|n=>n⟩
theorem Tryz.lays157:Go.Proofs.Lays.n157 Tryz.prog Tryz.lays157_ren:={
 mixed:=by kernel_rfl
 f157:=Tryz.func214.trans (congrArg some (by kernel_rfl))
 f199:=Tryz.func239.trans (congrArg some (by kernel_rfl))
 f229:=Tryz.func238.trans (congrArg some (by kernel_rfl))
 f261:=Tryz.func243.trans (congrArg some (by kernel_rfl))
 f311:=Tryz.func244.trans (congrArg some (by kernel_rfl))
 f312:=Tryz.func245.trans (congrArg some (by kernel_rfl))
 t0:=Tryz.underlying0
 a0:=Tryz.isAgg0
 z0:=Tryz.sizeOf0
 v0:=Tryz.zeroValue0
 t3:=Tryz.underlying3
 a3:=Tryz.isAgg3
 z3:=Tryz.sizeOf3
 v3:=Tryz.zeroValue3
 t4:=Tryz.underlying4
 a4:=Tryz.isAgg4
 z4:=Tryz.sizeOf4
 v4:=Tryz.zeroValue4
 t5:=Tryz.underlying5
 a5:=Tryz.isAgg5
 z5:=Tryz.sizeOf5
 v5:=Tryz.zeroValue5
 t9:=Tryz.underlying9
 a9:=Tryz.isAgg9
 z9:=Tryz.sizeOf9
 v9:=Tryz.zeroValue9
 t21:=Tryz.underlying21
 a21:=Tryz.isAgg21
 z21:=Tryz.sizeOf21
 v21:=Tryz.zeroValue21
 t31:=Tryz.underlying30
 a31:=Tryz.isAgg30
 z31:=Tryz.sizeOf30
 v31:=Tryz.zeroValue30
 t40:=Tryz.underlying244
 a40:=Tryz.isAgg244
 z40:=Tryz.sizeOf244
 v40:=Tryz.zeroValue244
 t46:=Tryz.underlying214
 a46:=Tryz.isAgg214
 z46:=Tryz.sizeOf214
 v46:=Tryz.zeroValue214
 t49:=Tryz.underlying261
 a49:=Tryz.isAgg261
 z49:=Tryz.sizeOf261
 v49:=Tryz.zeroValue261
 t51:=Tryz.underlying229
 a51:=Tryz.isAgg229
 z51:=Tryz.sizeOf229
 v51:=Tryz.zeroValue229
 t119:=Tryz.underlying242
 a119:=Tryz.isAgg242
 z119:=Tryz.sizeOf242
 t141:=Tryz.underlying254
 a141:=Tryz.isAgg254
 z141:=Tryz.sizeOf254
 v141:=Tryz.zeroValue254
 t152:=Tryz.underlying250
 a152:=Tryz.isAgg250
 z152:=Tryz.sizeOf250
 v152:=Tryz.zeroValue250
 t154:=Tryz.underlying252
 a154:=Tryz.isAgg252
 z154:=Tryz.sizeOf252
 v154:=Tryz.zeroValue252
 t193:=Tryz.underlying257
 a193:=Tryz.isAgg257
 z193:=Tryz.sizeOf257
 v193:=Tryz.zeroValue257
 t194:=Tryz.underlying258
 a194:=Tryz.isAgg258
 z194:=Tryz.sizeOf258
 v194:=Tryz.zeroValue258
 t196:=Tryz.underlying260
 a196:=Tryz.isAgg260
 z196:=Tryz.sizeOf260
 v196:=Tryz.zeroValue260
 t198:=Tryz.underlying263
 a198:=Tryz.isAgg263
 z198:=Tryz.sizeOf263
 v198:=Tryz.zeroValue263
 t201:=Tryz.underlying266
 a201:=Tryz.isAgg266
 z201:=Tryz.sizeOf266
 v201:=Tryz.zeroValue266
 t226:=Tryz.underlying268
 a226:=Tryz.isAgg268
 z226:=Tryz.sizeOf268
 v226:=Tryz.zeroValue268
 t227:=Tryz.underlying269
 a227:=Tryz.isAgg269
 z227:=Tryz.sizeOf269
 v227:=Tryz.zeroValue269
 g0:=by kernel_rfl
 g6:=by kernel_rfl}
open Go.RowKit Go.Lib in
theorem Tryz.strings_Fields (s:ByteArray) (w:World) (hs:s.size<4294967281) (hascii: ∀(j:Nat) b,s.data.toList[j]? =some b→b.toNat<128) (htab:Lib.TabIs Tryz.prog w "strings.asciiSpace" .u8 Lib.asciiSpaceTab):
 Calls Tryz.prog 214 #[.string s] w fun e w'=>
  e=.returned (.slice (some ⟨w.heap.size,0,none⟩) (Lib.fields s.data.toList).length (Lib.fields s.data.toList).length)∧w'=w.alloc (.cells ((Lib.fields s.data.toList).map fun l=>Value.string ⟨l.toArray⟩).toArray 9):=Any.strings_Fields Tryz.lays157 (by kernel_rfl) (by kernel_rfl) s w hs hascii htab
end Go.Proofs
namespace Go.Proofs.YtbnahfdbjaohkaaGreatDoor
open Go Go.Abs Go.RowKit
theorem vals1{imm:Addr->Option Value}{x:AV}{vals:Array Value}(h:RepL imm [] [x] vals): ∃a,vals=#[a]∧Rep imm [] x a:=by
 obtain⟨a1,a2⟩:=h
 obtain⟨v,rfl⟩:=Array.size_eq_one_iff.1 a1
 exact⟨v,rfl,a2 0 _ rfl⟩
theorem tab_of{P:Program}{w:World}(h:Tabs w){g:Nat}{k:IntKind}{zs:List Int}{name:String}(ht:(g,k,zs)∈tb)(hg:P.globalNamed name=some g):Lib.TabIs P w name k zs:=by
 obtain⟨ty,fr,h1⟩:=h _ ht
 have h2:w.heap[g]? =some (.cells (zs.map fun z=>Value.int k z).toArray ty fr):=h1
 simp only[Lib.TabIs,World.var?,hg,Option.bind_some,h2]
theorem pure_of_strs{P:Program}{f:FuncId}{args:List AV}{r:List (List UInt8)}{T:TypeId}(he:Abs.Enters P f)(hn:r.length<=281474976710656)(hz: ∀z∈r,z.length<=1152921504606846976)
 (h: ∀(imm:Addr->Option Value)(w:World)(vals:Array Value),(∀x v,imm x=some v->w.cell? x=some v)->GOk imm->Tabs w->RepL imm [] args vals->
  Calls P f vals w fun e w'=> ∃ps:List ByteArray,ps.map (·.data.toList)=r∧e=.returned (.slice (some ⟨w.heap.size,0,none⟩) r.length r.length)∧w'=w.alloc (.cells (ps.map Value.string).toArray T)):
 Pure P f args (.sl (r.map cS)):=by
 refine⟨he,fun imm w vals him hgl htb ha=>(h imm w vals him hgl htb ha).mono fun e w' he=>?_⟩
 obtain⟨ps,hD,rfl,rfl⟩:=he
 have hlt: ∀x v,imm x=some v->x.block<w.heap.size:=fun x v hx=>World.block_lt_of_cell? _ _ (him x v hx)
 refine⟨fun x=>if x.block=w.heap.size then (w.alloc (.cells (ps.map Value.string).toArray T)).cell? x else imm x,_,rfl,?_,fun x v hx=>?_,fun x v hx=>?_,Below.alloc (Below.refl _ _) (Nat.le_refl _) _,fun x v hx=>?_⟩
 ·refine .sl 1 _ ⟨w.heap.size,0,none⟩ _ _ (fun i _=>Value.string (ps.getD i default)) (by simp) (Nat.le_refl _) hn ?_ ?_ ?_
  ·intro i e he
   obtain⟨z,_,rfl⟩:=getElem?_map_some he
   rfl
  ·intro i e he j x hx
   obtain⟨z,hz',rfl⟩:=getElem?_map_some he
   rw[<-hD] at hz'
   obtain⟨p,hp,rfl⟩:=getElem?_map_some hz'
   have hj:j=0:=by
    rcases j with _|j
    ·rfl
    ·simp[cS] at hx
   subst hj
   have hadd:((⟨w.heap.size,0,none⟩:Addr).add (i*1+0))=⟨w.heap.size,i,none⟩:=by
    unfold Addr.add
    split
    ·rename_i h0;have:i=0:=by omega
     subst this;rfl
    ·simp
   rw[hadd]
   simp only[if_true]
   rw[World.cell?_alloc_new]
   simp[hp,zq5]
  ·intro i e he j x hx
   obtain⟨z,hz',rfl⟩:=getElem?_map_some he
   have hzl:z.length<=1152921504606846976:=hz z (zq3 hz')
   rw[<-hD] at hz'
   obtain⟨p,hp,rfl⟩:=getElem?_map_some hz'
   have hx':x=.str p.data.toList:=by
    rcases j with _|j
    ·simpa[cS] using hx.symm
    ·simp[cS] at hx
   subst hx'
   have:ps.getD i default=p:=by simp[zq5,hp]
   rw[this]
   exact .str _ _ rfl hzl
 ·have:=hlt x v hx
  show(if x.block=w.heap.size then _ else imm x)=some v
  rw[if_neg (by omega)];exact hx
 ·dsimp only at hx
  split at hx
  ·exact hx
  ·rw[World.cell?_alloc_lt _ _ _ (hlt x v hx)];exact him x v hx
 ·dsimp only at hx
  split at hx
  ·rename_i hb;exact .inr (by omega)
  ·exact .inl hx
theorem below_grown'(w:World)(n:Nat)(os:Array Obj):Below w.heap.size w (Go.Sort.grow (w.drewN n) os):=⟨rfl,rfl,rfl,by show _<=(w.heap++os).size;rw[Array.size_append];exact Nat.le_add_right _ _,fun k hk=>by show(w.heap++os)[k]? =_;rw[Array.getElem?_append_left hk]⟩
theorem zFP(s0:List UInt8)(r:List (List UInt8))(h:zCi s0=some r):Pure Tryz.prog 214 [.str s0] (.sl (r.map cS)):=by
 unfold zCi at h
 split at h
 case isFalse=>cases h
 rename_i hc
 obtain⟨c1,c2,c3,c4⟩:=hc
 cases h
 refine pure_of_strs (T:=9) ⟨Tryz.f214,Tryz.func214,by rfl,by rfl⟩ (by omega) (fun z hz=>by have:=of_decide_eq_true (zq8 c4 z hz);omega) fun imm w vals him hgl htb ha=>?_
 obtain⟨a,rfl,h1⟩:=vals1 ha
 cases h1 with
 |str s l hs hb=>
  have z1:s.size=s0.length:=by rw[<-hs];exact Array.length_toList.symm
  refine(Tryz.strings_Fields s w (by omega) (fun j b hb=>?_) (tab_of htb (g:=4) (by simp[tb,tb1,tb2]) (by kernel_rfl))).mono fun e w' he=>?_
  ·rw[hs] at hb
   exact of_decide_eq_true (zq8 c2 b (zq3 hb))
  ·obtain⟨rfl,rfl⟩:=he
   rw[hs]
   refine⟨(Lib.fields s0).map fun l=>⟨l.toArray⟩,?_,rfl,?_⟩
   ·rw[List.map_map]
    exact List.map_id' _
   ·rw[List.map_map];rfl
theorem zEw(n:Int)(r:List UInt8)(h:zCu n=some r):Pure Tryz.prog 26 [.int .i64 n] (.str r):=by
 unfold zCu at h
 split at h
 case isFalse=>cases h
 rename_i hc
 cases h
 refine zFf ⟨Tryz.f26,Tryz.func26,by rfl,by rfl⟩ fun imm w vals him hgl htb ha=>?_
 obtain⟨a,rfl,h1⟩:=vals1 ha
 cases h1 with
 |int k n hn=>
  have hn': -9223372036854775808<=n∧n<=9223372036854775807:=hn
  refine(Tryz.strconv_Itoa n hn'.1 hn'.2 w (tab_of htb (g:=1) (by simp[tb,tb1,tb2]) (by kernel_rfl))).mono fun e w' he=>?_
  obtain⟨rfl,k,os,rfl⟩:=he
  exact⟨_,rfl,.str _ _ (by simp) (by omega),below_grown' w k os⟩
theorem zF5(l:List (List UInt8))(s:List UInt8)(r:List UInt8)(h:zD7 l s=some r):Pure Tryz.prog 27 [.sl (l.map cS),.str s] (.str r):=by
 refine zFf ⟨Tryz.f27,Tryz.func27,by rfl,by rfl⟩ fun imm w vals him hgl htb ha=>?_
 obtain⟨a,b,rfl,h1,h2⟩:=vals2 ha
 unfold zD7 at h
 split at h
 case isFalse=>cases h
 rename_i hlen
 cases h
 cases h2 with
 |str sb _ hs hb=>
  have:=bytes_of hs;subst this
  cases l with
  |nil=>
   have hv: ∃ad c,a=.slice ad 0 c:=by
    cases h1 with
    |sl0=>exact⟨none,0,rfl⟩
    |sl ec L ad n cap vs hn hc hbd he h r=>exact⟨some ad,cap,by rw[hn];rfl⟩
   obtain⟨ad,c,rfl⟩:=hv
   refine(Tryz.strings_Join_none ad c _ w).mono fun e w' he=>?_
   obtain⟨rfl,rfl⟩:=he
   refine⟨_,rfl,.str _ _ ?_ (by simp[Lib.join_nil]),Below.refl _ _⟩
   rw[Lib.join_nil]
  |cons x l=>
   cases h1 with
   |sl ec L ad n cap vs hn hc hbd he hh rr=>
    have hec:ec=1:=(he 0 _ rfl).symm
    subst hec
    have h0:=him _ _ (hh 0 _ rfl 0 _ rfl)
    obtain⟨bk,o,sp⟩:=ad
    have hlt:=World.block_lt_of_cell? _ _ h0
    rw[zEa] at hlt
    have hsp:sp=none:=by
     cases sp with
     |none=>rfl
     |some q=>
      have:((⟨bk,o,some q⟩:Addr).add (0*1+0))=⟨bk,o,some q⟩:=by simp[Addr.add]
      rw[this] at h0
      simp only[World.cell?,Option.isSome_some,if_true] at h0
      split at h0<;>cases h0
    subst hsp
    obtain⟨xs,h1,h2,h3⟩: ∃xs:List ByteArray,xs.map (·.data.toList)=x::l∧xs.length=n∧∀(j:Nat) y,xs[j]? =some y->∃z,(x::l)[j]? =some z∧(⟨z.toArray⟩:ByteArray)=y:=
     ⟨(x::l).map fun b=>(⟨b.toArray⟩:ByteArray),map_bytes _,by rw[hn];simp,fun j y hy=>(by obtain⟨z,hz,e⟩:=getElem?_map_some hy;exact⟨z,hz,e.symm⟩)⟩
    rw[<-h1] at hlen
    have hcap:xs.length<=cap:=by rw[h2];exact hc
    have hN:xs.length<=140737488355328:=by have:=hlen.1;rw[zq4] at this;exact this
    have hcells: ∀(j:Nat) y,xs[j]? =some y->w.cell? ⟨bk,o+j,none⟩=some (.string y):=by
     intro j y hy
     obtain⟨z,hz,rfl⟩:=h3 j y hy
     have hm:((x::l).map cS)[j]? =some (cS z):=by rw[List.getElem?_map,hz];rfl
     have e1:=him _ _ (hh j _ hm 0 _ rfl)
     have e2:=rr j _ hm 0 (.str z) rfl
     generalize vs j 0=u at e1 e2
     cases e2 with
     |str sz _ hsz _=>
      have:=bytes_of hsz;subst this
      have:((⟨bk,o,none⟩:Addr).add (j*1+0))=⟨bk,o+j,none⟩:=by
       unfold Addr.add
       split
       ·rename_i h0;have:j=0:=by omega
        subst this;rfl
       ·simp
      rw[this] at e1
      exact e1
    have hjl:(Lib.join (xs.map (·.data.toList)) (⟨s.toArray⟩:ByteArray).data.toList).length<=140737488355328:=hlen.2
    have key:=Tryz.strings_Join bk o cap xs ⟨s.toArray⟩ w hcells hlt hN hcap hjl
    rw[h2] at key
    refine key.mono fun e w' he=>?_
    obtain⟨rfl,hbel⟩:=he
    rw[h1] at hlen
    refine⟨_,rfl,.str _ _ (by rw[h1]) (Nat.le_trans hlen.2 (by decide)),hbel⟩
end Go.Proofs.YtbnahfdbjaohkaaGreatDoor
