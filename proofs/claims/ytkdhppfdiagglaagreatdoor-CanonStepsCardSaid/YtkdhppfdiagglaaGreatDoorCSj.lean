/- CanonSteps holds: for every input the law returns true. No condition. Part 10 of 19. No condition. -/
import Derived.Test.YtkdhppfdiagglaaGreatDoorCSi
import Derived.Shelf.Strings.Builder1
import Derived.Shelf.Strings.Builder2
import Derived.Shelf.Strings.OnBuilder
import Derived.Shelf.Strconv.Atoi
import Derived.Shelf.Strconv.Itoa0
import Derived.Shelf.Strconv.Itoa1
import Derived.Shelf.LaysM
import Derived.Shelf.Strconv.Itoa2
import Derived.Shelf.Strconv.AtoiErrFast
import Derived.Shelf.Strconv.ParseIntEmpty
import Derived.Shelf.Strconv.AtoiFail
import Derived.Shelf.Strconv.Clone
import Derived.Shelf.Strconv.SyntaxError
import Derived.Shelf.LaysC
import Derived.Shelf.Strconv.ToError
import Derived.Shelf.Strconv.AtoiErr
import Derived.Shelf.Strconv.Lower
import Derived.Shelf.Strconv.ParseUint10
import Derived.Shelf.Strconv.ParseUint10Empty
import Derived.Shelf.Strconv.ParseUint10Any
import Derived.Shelf.Strconv.ParseInt10
import Derived.Shelf.Strconv.AtoiLong
import Derived.Shelf.Strconv.AtoiInnerAll
import Derived.Shelf.Strconv.RangeError
import Derived.Shelf.Strconv.ToErrorRange
import Derived.Shelf.Strconv.AtoiAll
import Derived.Shelf.Strings.Search1
import Derived.Shelf.Strings.Search2
import Derived.Shelf.Strings.Cut
import Derived.Shelf.Strings.Shaped
import Derived.Shelf.Strings.Fields
import Derived.Shelf.Strings.SplitShaped
import Derived.Shelf.Unicode.Latin
import Derived.Shelf.Bits.Mul64
import Derived.Shelf.Unicode.Is16White
import Derived.Shelf.Unicode.IsSpaceAny
import Derived.Shelf.Unicode.Is16Any
import Derived.Shelf.Unicode.Is32Any
import Derived.Shelf.Unicode.ExclAny
set_option linter.unusedVariables false
set_option linter.unnecessarySimpa false
set_option linter.unusedSimpArgs false
set_option maxRecDepth 100000
set_option maxHeartbeats 4000000
namespace Go.Proofs
open Go.Shelf
def Tryz.lays156_ren:Go.Shelf.Ren:=⟨fun|156=>96|165=>127|166=>64|169=>67|240=>94|241=>165|276=>124|277=>191|n=>n,fun|31=>25|9=>9|3=>3|4=>4|0=>0|20=>20|72=>98|76=>101|70=>95|37=>96|75=>100|127=>131|164=>147|5=>5|80=>105|n=>n,fun|n=>n⟩
theorem Tryz.lays156:Go.Proofs.Lays.n156 Tryz.prog Tryz.lays156_ren:={
 mixed:=by kernel_rfl
 f156:=Tryz.func96.trans (congrArg some (by kernel_rfl))
 f165:=Tryz.func127.trans (congrArg some (by kernel_rfl))
 f166:=Tryz.func64.trans (congrArg some (by kernel_rfl))
 f169:=Tryz.func67.trans (congrArg some (by kernel_rfl))
 f240:=Tryz.func94.trans (congrArg some (by kernel_rfl))
 f241:=Tryz.func165.trans (congrArg some (by kernel_rfl))
 f276:=Tryz.func124.trans (congrArg some (by kernel_rfl))
 f277:=Tryz.func191.trans (congrArg some (by kernel_rfl))
 t0:=Tryz.underlying0
 a0:=Tryz.isAgg0
 z0:=Tryz.sizeOf0
 v0:=Tryz.zeroValue0
 t3:=Tryz.underlying3
 a3:=Tryz.isAgg3
 z3:=Tryz.sizeOf3
 v3:=Tryz.zeroValue3
 t4:=Tryz.underlying4
 a4:=Tryz.isAgg4
 z4:=Tryz.sizeOf4
 v4:=Tryz.zeroValue4
 t9:=Tryz.underlying9
 a9:=Tryz.isAgg9
 z9:=Tryz.sizeOf9
 v9:=Tryz.zeroValue9
 t20:=Tryz.underlying20
 a20:=Tryz.isAgg20
 z20:=Tryz.sizeOf20
 v20:=Tryz.zeroValue20
 t31:=Tryz.underlying25
 a31:=Tryz.isAgg25
 z31:=Tryz.sizeOf25
 v31:=Tryz.zeroValue25
 t37:=Tryz.underlying96
 a37:=Tryz.isAgg96
 z37:=Tryz.sizeOf96
 v37:=Tryz.zeroValue96
 t70:=Tryz.underlying95
 a70:=Tryz.isAgg95
 z70:=Tryz.sizeOf95
 v70:=Tryz.zeroValue95
 t72:=Tryz.underlying98
 a72:=Tryz.isAgg98
 z72:=Tryz.sizeOf98
 v72:=Tryz.zeroValue98
 t75:=Tryz.underlying100
 a75:=Tryz.isAgg100
 z75:=Tryz.sizeOf100
 v75:=Tryz.zeroValue100
 t76:=Tryz.underlying101
 a76:=Tryz.isAgg101
 z76:=Tryz.sizeOf101
 v76:=Tryz.zeroValue101
 t127:=Tryz.underlying131
 a127:=Tryz.isAgg131
 z127:=Tryz.sizeOf131
 v127:=Tryz.zeroValue131
 t164:=Tryz.underlying147
 a164:=Tryz.isAgg147
 z164:=Tryz.sizeOf147
 v164:=Tryz.zeroValue147}
theorem Tryz.Builder_Extra_156:Builder.Extra Tryz.prog Tryz.lays156_ren:={
 sizeBuilder:=by kernel_rfl
 liesBuilder:=by kernel_rfl
 t5:=Tryz.underlying5
 a5:=Tryz.isAgg5
 z5:=Tryz.sizeOf5
 v5:=Tryz.zeroValue5
 infoByte:=by kernel_rfl
 cellsByte:=by kernel_rfl
 sizeByte:=by kernel_rfl
 neB5:=by decide}
open Go.RowKit in
theorem Tryz.strings_Join_none(a:Option Addr)(c:Nat)(sep:ByteArray)(w:World):
 Calls Tryz.prog 96 #[.slice a 0 c,.string sep] w fun e w'=>e=.returned (.string ⟨#[]⟩)∧w'=w:=Any.strings_Join_none Tryz.lays156 Tryz.Builder_Extra_156 a c sep w
open Go.RowKit in
theorem Tryz.strings_Join(bk o c:Nat)(xs:List ByteArray)(sep:ByteArray)(w:World)(hcells: ∀(j:Nat) x,xs[j]? =some x->w.cell? ⟨bk,o+j,none⟩=some (.string x))(hbk:bk<w.heap.size)(hN:xs.length<=140737488355328)(hcap:xs.length<=c)(hlen:(Lib.join (xs.map (·.data.toList)) sep.data.toList).length<=140737488355328):
 Calls Tryz.prog 96 #[.slice (some ⟨bk,o,none⟩) xs.length c,.string sep] w fun e w'=>e=.returned (.string ⟨(Lib.join (xs.map (·.data.toList)) sep.data.toList).toArray⟩)∧Below w.heap.size w w':=Any.strings_Join Tryz.lays156 Tryz.Builder_Extra_156 bk o c xs sep w hcells hbk hN hcap hlen
def Tryz.laysM171_ren:Go.Shelf.Ren:=⟨fun|171=>193|243=>214|246=>224|283=>235|284=>236|285=>237|286=>238|129=>163|317=>246|318=>247|319=>248|320=>249|337=>255|338=>256|n=>n,fun|3=>3|9=>9|2=>2|4=>4|171=>228|0=>0|53=>174|37=>96|5=>5|173=>230|212=>242|51=>172|20=>20|213=>243|46=>142|232=>256|233=>257|n=>n,fun|17=>3|18=>6|19=>7|n=>n⟩
theorem Tryz.laysM171:Go.Proofs.LaysM.n171 Tryz.prog Tryz.laysM171_ren:={
 mixed:=by kernel_rfl
 f129:=Tryz.func163.trans (congrArg some (by kernel_rfl))
 f171:=Tryz.func193.trans (congrArg some (by kernel_rfl))
 f243:=Tryz.func214.trans (congrArg some (by kernel_rfl))
 f246:=Tryz.func224.trans (congrArg some (by kernel_rfl))
 f283:=Tryz.func235.trans (congrArg some (by kernel_rfl))
 f284:=Tryz.func236.trans (congrArg some (by kernel_rfl))
 f285:=Tryz.func237.trans (congrArg some (by kernel_rfl))
 f286:=Tryz.func238.trans (congrArg some (by kernel_rfl))
 f317:=Tryz.func246.trans (congrArg some (by kernel_rfl))
 f318:=Tryz.func247.trans (congrArg some (by kernel_rfl))
 f319:=Tryz.func248.trans (congrArg some (by kernel_rfl))
 f320:=Tryz.func249.trans (congrArg some (by kernel_rfl))
 f337:=Tryz.func255.trans (congrArg some (by kernel_rfl))
 f338:=Tryz.func256.trans (congrArg some (by kernel_rfl))
 t0:=Tryz.underlying0
 a0:=Tryz.isAgg0
 z0:=Tryz.sizeOf0
 v0:=Tryz.zeroValue0
 t2:=Tryz.underlying2
 a2:=Tryz.isAgg2
 z2:=Tryz.sizeOf2
 v2:=Tryz.zeroValue2
 t3:=Tryz.underlying3
 a3:=Tryz.isAgg3
 z3:=Tryz.sizeOf3
 v3:=Tryz.zeroValue3
 t4:=Tryz.underlying4
 a4:=Tryz.isAgg4
 z4:=Tryz.sizeOf4
 v4:=Tryz.zeroValue4
 t5:=Tryz.underlying5
 a5:=Tryz.isAgg5
 z5:=Tryz.sizeOf5
 v5:=Tryz.zeroValue5
 t9:=Tryz.underlying9
 a9:=Tryz.isAgg9
 z9:=Tryz.sizeOf9
 v9:=Tryz.zeroValue9
 t20:=Tryz.underlying20
 a20:=Tryz.isAgg20
 z20:=Tryz.sizeOf20
 v20:=Tryz.zeroValue20
 t37:=Tryz.underlying96
 a37:=Tryz.isAgg96
 z37:=Tryz.sizeOf96
 v37:=Tryz.zeroValue96
 t46:=Tryz.underlying142
 a46:=Tryz.isAgg142
 z46:=Tryz.sizeOf142
 v46:=Tryz.zeroValue142
 t51:=Tryz.underlying172
 a51:=Tryz.isAgg172
 z51:=Tryz.sizeOf172
 v51:=Tryz.zeroValue172
 t53:=Tryz.underlying174
 a53:=Tryz.isAgg174
 z53:=Tryz.sizeOf174
 v53:=Tryz.zeroValue174
 t171:=Tryz.underlying228
 a171:=Tryz.isAgg228
 z171:=Tryz.sizeOf228
 v171:=Tryz.zeroValue228
 t173:=Tryz.underlying230
 a173:=Tryz.isAgg230
 z173:=Tryz.sizeOf230
 v173:=Tryz.zeroValue230
 t212:=Tryz.underlying242
 a212:=Tryz.isAgg242
 z212:=Tryz.sizeOf242
 v212:=Tryz.zeroValue242
 t213:=Tryz.underlying243
 a213:=Tryz.isAgg243
 z213:=Tryz.sizeOf243
 t232:=Tryz.underlying256
 a232:=Tryz.isAgg256
 z232:=Tryz.sizeOf256
 v232:=Tryz.zeroValue256
 t233:=Tryz.underlying257
 a233:=Tryz.isAgg257
 z233:=Tryz.sizeOf257
 v233:=Tryz.zeroValue257
 g17:=by kernel_rfl
 g18:=by kernel_rfl
 g19:=by kernel_rfl
 i0:=by kernel_rfl
 i2:=by kernel_rfl
 i3:=by kernel_rfl
 i4:=by kernel_rfl
 i5:=by kernel_rfl
 i9:=by kernel_rfl
 i20:=by kernel_rfl
 i37:=by kernel_rfl
 i46:=by kernel_rfl
 i51:=by kernel_rfl
 i53:=by kernel_rfl
 i171:=by kernel_rfl
 i173:=by kernel_rfl
 i212:=by kernel_rfl
 i232:=by kernel_rfl
 i233:=by kernel_rfl
 m17:=by kernel_rfl
 m18:=by kernel_rfl
 m19:=by kernel_rfl}
open Go.RowKit Go.Sort Go.Lib in
theorem Tryz.strconv_Itoa (n:Int) (h0: -9223372036854775808≤n) (h1:n≤9223372036854775807) (w:World) (htab:Lib.TabIs Tryz.prog w "internal/strconv.uint64pow10" .u64 Lib.pow10Tab):
 Calls Tryz.prog 193 #[.int .i64 n] w fun e w'=>e=.returned (.string ⟨(Lib.itoa n).toArray⟩)∧∃k os,w'=grow (w.drewN k) os:=Any.strconv_Itoa Tryz.laysM171 n h0 h1 w htab
def Tryz.laysC172_ren:Go.Shelf.Ren:=⟨fun|172=>203|244=>218|245=>219|247=>230|279=>231|280=>232|281=>233|282=>234|287=>243|316=>244|171=>193|205=>245|321=>253|322=>254|243=>214|246=>224|283=>235|284=>236|285=>237|286=>238|129=>163|317=>246|318=>247|319=>248|320=>249|337=>255|338=>256|n=>n,fun|9=>9|3=>3|75=>100|76=>101|4=>4|5=>5|167=>222|37=>96|0=>0|85=>223|2=>2|168=>225|53=>174|175=>235|46=>142|210=>239|127=>131|145=>250|143=>248|21=>21|171=>228|173=>230|212=>242|51=>172|20=>20|213=>243|232=>256|233=>257|80=>105|n=>n,fun|15=>1|16=>2|17=>3|18=>6|19=>7|n=>n⟩
theorem Tryz.laysC172:Go.Proofs.LaysC.n172 Tryz.prog Tryz.laysC172_ren:={
 mixed:=by kernel_rfl
 f129:=Tryz.func163.trans (congrArg some (by kernel_rfl))
 f171:=Tryz.func193.trans (congrArg some (by kernel_rfl))
 f172:=Tryz.func203.trans (congrArg some (by kernel_rfl))
 f205:=Tryz.func245.trans (congrArg some (by kernel_rfl))
 f243:=Tryz.func214.trans (congrArg some (by kernel_rfl))
 f244:=Tryz.func218.trans (congrArg some (by kernel_rfl))
 f245:=Tryz.func219.trans (congrArg some (by kernel_rfl))
 f246:=Tryz.func224.trans (congrArg some (by kernel_rfl))
 f247:=Tryz.func230.trans (congrArg some (by kernel_rfl))
 f279:=Tryz.func231.trans (congrArg some (by kernel_rfl))
 f280:=Tryz.func232.trans (congrArg some (by kernel_rfl))
 f281:=Tryz.func233.trans (congrArg some (by kernel_rfl))
 f282:=Tryz.func234.trans (congrArg some (by kernel_rfl))
 f283:=Tryz.func235.trans (congrArg some (by kernel_rfl))
 f284:=Tryz.func236.trans (congrArg some (by kernel_rfl))
 f285:=Tryz.func237.trans (congrArg some (by kernel_rfl))
 f286:=Tryz.func238.trans (congrArg some (by kernel_rfl))
 f287:=Tryz.func243.trans (congrArg some (by kernel_rfl))
 f316:=Tryz.func244.trans (congrArg some (by kernel_rfl))
 f317:=Tryz.func246.trans (congrArg some (by kernel_rfl))
 f318:=Tryz.func247.trans (congrArg some (by kernel_rfl))
 f319:=Tryz.func248.trans (congrArg some (by kernel_rfl))
 f320:=Tryz.func249.trans (congrArg some (by kernel_rfl))
 f321:=Tryz.func253.trans (congrArg some (by kernel_rfl))
 f322:=Tryz.func254.trans (congrArg some (by kernel_rfl))
 f337:=Tryz.func255.trans (congrArg some (by kernel_rfl))
 f338:=Tryz.func256.trans (congrArg some (by kernel_rfl))
 t0:=Tryz.underlying0
 a0:=Tryz.isAgg0
 z0:=Tryz.sizeOf0
 v0:=Tryz.zeroValue0
 t2:=Tryz.underlying2
 a2:=Tryz.isAgg2
 z2:=Tryz.sizeOf2
 v2:=Tryz.zeroValue2
 t3:=Tryz.underlying3
 a3:=Tryz.isAgg3
 z3:=Tryz.sizeOf3
 v3:=Tryz.zeroValue3
 t4:=Tryz.underlying4
 a4:=Tryz.isAgg4
 z4:=Tryz.sizeOf4
 v4:=Tryz.zeroValue4
 t5:=Tryz.underlying5
 a5:=Tryz.isAgg5
 z5:=Tryz.sizeOf5
 v5:=Tryz.zeroValue5
 t9:=Tryz.underlying9
 a9:=Tryz.isAgg9
 z9:=Tryz.sizeOf9
 v9:=Tryz.zeroValue9
 t20:=Tryz.underlying20
 a20:=Tryz.isAgg20
 z20:=Tryz.sizeOf20
 v20:=Tryz.zeroValue20
 t21:=Tryz.underlying21
 a21:=Tryz.isAgg21
 z21:=Tryz.sizeOf21
 v21:=Tryz.zeroValue21
 t37:=Tryz.underlying96
 a37:=Tryz.isAgg96
 z37:=Tryz.sizeOf96
 v37:=Tryz.zeroValue96
 t46:=Tryz.underlying142
 a46:=Tryz.isAgg142
 z46:=Tryz.sizeOf142
 v46:=Tryz.zeroValue142
 t51:=Tryz.underlying172
 a51:=Tryz.isAgg172
 z51:=Tryz.sizeOf172
 v51:=Tryz.zeroValue172
 t53:=Tryz.underlying174
 a53:=Tryz.isAgg174
 z53:=Tryz.sizeOf174
 v53:=Tryz.zeroValue174
 t75:=Tryz.underlying100
 a75:=Tryz.isAgg100
 z75:=Tryz.sizeOf100
 v75:=Tryz.zeroValue100
 t76:=Tryz.underlying101
 a76:=Tryz.isAgg101
 z76:=Tryz.sizeOf101
 v76:=Tryz.zeroValue101
 t85:=Tryz.underlying223
 a85:=Tryz.isAgg223
 z85:=Tryz.sizeOf223
 v85:=Tryz.zeroValue223
 t127:=Tryz.underlying131
 a127:=Tryz.isAgg131
 z127:=Tryz.sizeOf131
 v127:=Tryz.zeroValue131
 t143:=Tryz.underlying248
 a143:=Tryz.isAgg248
 z143:=Tryz.sizeOf248
 v143:=Tryz.zeroValue248
 t145:=Tryz.underlying250
 a145:=Tryz.isAgg250
 z145:=Tryz.sizeOf250
 v145:=Tryz.zeroValue250
 t167:=Tryz.underlying222
 a167:=Tryz.isAgg222
 z167:=Tryz.sizeOf222
 v167:=Tryz.zeroValue222
 t168:=Tryz.underlying225
 a168:=Tryz.isAgg225
 z168:=Tryz.sizeOf225
 v168:=Tryz.zeroValue225
 t171:=Tryz.underlying228
 a171:=Tryz.isAgg228
 z171:=Tryz.sizeOf228
 v171:=Tryz.zeroValue228
 t173:=Tryz.underlying230
 a173:=Tryz.isAgg230
 z173:=Tryz.sizeOf230
 v173:=Tryz.zeroValue230
 t175:=Tryz.underlying235
 a175:=Tryz.isAgg235
 z175:=Tryz.sizeOf235
 v175:=Tryz.zeroValue235
 t210:=Tryz.underlying239
 a210:=Tryz.isAgg239
 z210:=Tryz.sizeOf239
 v210:=Tryz.zeroValue239
 t212:=Tryz.underlying242
 a212:=Tryz.isAgg242
 z212:=Tryz.sizeOf242
 v212:=Tryz.zeroValue242
 t213:=Tryz.underlying243
 a213:=Tryz.isAgg243
 z213:=Tryz.sizeOf243
 t232:=Tryz.underlying256
 a232:=Tryz.isAgg256
 z232:=Tryz.sizeOf256
 v232:=Tryz.zeroValue256
 t233:=Tryz.underlying257
 a233:=Tryz.isAgg257
 z233:=Tryz.sizeOf257
 v233:=Tryz.zeroValue257
 g15:=by kernel_rfl
 g16:=by kernel_rfl
 g17:=by kernel_rfl
 g18:=by kernel_rfl
 g19:=by kernel_rfl
 t80:=Tryz.underlying105
 a80:=Tryz.isAgg105
 z80:=Tryz.sizeOf105
 v80:=Tryz.zeroValue105
 i0:=by kernel_rfl
 i2:=by kernel_rfl
 i3:=by kernel_rfl
 i4:=by kernel_rfl
 i5:=by kernel_rfl
 i9:=by kernel_rfl
 i20:=by kernel_rfl
 i21:=by kernel_rfl
 i37:=by kernel_rfl
 i46:=by kernel_rfl
 i51:=by kernel_rfl
 i53:=by kernel_rfl
 i75:=by kernel_rfl
 i76:=by kernel_rfl
 i80:=by kernel_rfl
 i85:=by kernel_rfl
 i127:=by kernel_rfl
 i143:=by kernel_rfl
 i145:=by kernel_rfl
 i167:=by kernel_rfl
 i168:=by kernel_rfl
 i171:=by kernel_rfl
 i173:=by kernel_rfl
 i175:=by kernel_rfl
 i210:=by kernel_rfl
 i212:=by kernel_rfl
 i232:=by kernel_rfl
 i233:=by kernel_rfl
 m15:=by kernel_rfl
 m16:=by kernel_rfl
 m17:=by kernel_rfl
 m18:=by kernel_rfl
 m19:=by kernel_rfl
 c0:=by kernel_rfl
 c2:=by kernel_rfl
 c3:=by kernel_rfl
 c4:=by kernel_rfl
 c5:=by kernel_rfl
 c9:=by kernel_rfl
 c20:=by kernel_rfl
 c21:=by kernel_rfl
 c37:=by kernel_rfl
 c46:=by kernel_rfl
 c51:=by kernel_rfl
 c53:=by kernel_rfl
 c75:=by kernel_rfl
 c76:=by kernel_rfl
 c80:=by kernel_rfl
 c85:=by kernel_rfl
 c127:=by kernel_rfl
 c143:=by kernel_rfl
 c145:=by kernel_rfl
 c167:=by kernel_rfl
 c168:=by kernel_rfl
 c171:=by kernel_rfl
 c173:=by kernel_rfl
 c175:=by kernel_rfl
 c210:=by kernel_rfl
 c212:=by kernel_rfl
 c213:=by kernel_rfl
 c232:=by kernel_rfl
 c233:=by kernel_rfl}
open Go.RowKit in
theorem Tryz.strconv_Atoi_ok(s:ByteArray)(hmax:s.size<=9223372036854775806)(v:Int)(h:Lib.atoiAll s.data.toList=.ok v)(w:World):
 Calls Tryz.prog 203 #[.string s] w fun e w'=>e=.returned (.tuple #[.int .i64 v,.nilIface])∧(w'=w∨∃t,w'=Lib.bytesWorld w 5 t):=Any.strconv_Atoi_ok Tryz.laysC172 s hmax v h w
open Go.RowKit in
theorem Tryz.strconv_Atoi_syntax(s:ByteArray)(hlim:s.size<=281474976710656)(h:Lib.atoiAll s.data.toList=(Lib.atoiAll []))(ev:Value)(w:World)(hv:w.cell? ⟨1,0,none⟩=some ev)(hev:ev=.nilIface∨∃te pe,ev=.iface te pe):
 Calls Tryz.prog 203 #[.string s] w fun e w'=> ∃N,e=.returned (.tuple #[.int .i64 (0),.iface 225 (.pointer (some ⟨N,0,none⟩))])∧w.heap.size<=N∧w'.heap[N]? =some (.cells #[.string ⟨#[65,116,111,105]⟩,.string s,ev] 239 (0,0))∧Below w.heap.size w w':=Any.strconv_Atoi_syntax Tryz.laysC172 s hlim h ev w hv hev
open Go.RowKit in
theorem Tryz.strconv_Atoi_range(s:ByteArray)(hlim:s.size<=281474976710656)(h:Lib.atoiAll s.data.toList=.range)(ev:Value)(w:World)(hv:w.cell? ⟨2,0,none⟩=some ev)(hev:ev=.nilIface∨∃te pe,ev=.iface te pe):
 Calls Tryz.prog 203 #[.string s] w fun e w'=> ∃N,e=.returned (.tuple #[.int .i64 (Lib.atoiSat s.data.toList),.iface 225 (.pointer (some ⟨N,0,none⟩))])∧w.heap.size<=N∧w'.heap[N]? =some (.cells #[.string ⟨#[65,116,111,105]⟩,.string s,ev] 239 (0,0))∧Below w.heap.size w w':=Any.strconv_Atoi_range Tryz.laysC172 s hlim h ev w hv hev
def Tryz.lays219_ren:Go.Shelf.Ren:=⟨fun|219=>217|217=>226|225=>227|224=>228|267=>229|266=>241|314=>242|n=>n,fun|9=>9|3=>3|4=>4|5=>5|46=>142|146=>208|51=>172|n=>n,fun|1=>0|n=>n⟩
theorem Tryz.lays219:Go.Proofs.Lays.n219 Tryz.prog Tryz.lays219_ren:={
 mixed:=by kernel_rfl
 f217:=Tryz.func226.trans (congrArg some (by kernel_rfl))
 f219:=Tryz.func217.trans (congrArg some (by kernel_rfl))
 f224:=Tryz.func228.trans (congrArg some (by kernel_rfl))
 f225:=Tryz.func227.trans (congrArg some (by kernel_rfl))
 f266:=Tryz.func241.trans (congrArg some (by kernel_rfl))
 f267:=Tryz.func229.trans (congrArg some (by kernel_rfl))
 f314:=Tryz.func242.trans (congrArg some (by kernel_rfl))
 t3:=Tryz.underlying3
 a3:=Tryz.isAgg3
 z3:=Tryz.sizeOf3
 v3:=Tryz.zeroValue3
 t4:=Tryz.underlying4
 a4:=Tryz.isAgg4
 z4:=Tryz.sizeOf4
 v4:=Tryz.zeroValue4
 t5:=Tryz.underlying5
 a5:=Tryz.isAgg5
 z5:=Tryz.sizeOf5
 v5:=Tryz.zeroValue5
 t9:=Tryz.underlying9
 a9:=Tryz.isAgg9
 z9:=Tryz.sizeOf9
 v9:=Tryz.zeroValue9
 t46:=Tryz.underlying142
 a46:=Tryz.isAgg142
 z46:=Tryz.sizeOf142
 v46:=Tryz.zeroValue142
 t51:=Tryz.underlying172
 a51:=Tryz.isAgg172
 z51:=Tryz.sizeOf172
 v51:=Tryz.zeroValue172
 t146:=Tryz.underlying208
 a146:=Tryz.isAgg208
 z146:=Tryz.sizeOf208
 v146:=Tryz.zeroValue208
 g1:=by kernel_rfl}
open Go.RowKit Go.Lib in
theorem Tryz.stringslite_Index_one(s:ByteArray)(c:UInt8)(w:World):
 Calls Tryz.prog 217 #[.string s,.string ⟨#[c]⟩] w fun e w'=>e=.returned (.int .i64 (Lib.indexByte s.data.toList c))∧w'=w:=Any.stringslite_Index_one Tryz.lays219 s c w
def Tryz.lays157_ren:Go.Shelf.Ren:=⟨fun|157=>240|229=>251|199=>252|261=>257|311=>258|312=>259|n=>n,fun|9=>9|31=>25|3=>3|5=>5|4=>4|119=>244|0=>0|40=>246|152=>251|21=>21|154=>253|51=>172|141=>255|196=>261|193=>258|198=>264|49=>262|194=>259|201=>267|226=>269|46=>142|227=>270|n=>n,fun|0=>4|6=>5|n=>n⟩
theorem Tryz.lays157:Go.Proofs.Lays.n157 Tryz.prog Tryz.lays157_ren:={
 mixed:=by kernel_rfl
 f157:=Tryz.func240.trans (congrArg some (by kernel_rfl))
 f199:=Tryz.func252.trans (congrArg some (by kernel_rfl))
 f229:=Tryz.func251.trans (congrArg some (by kernel_rfl))
 f261:=Tryz.func257.trans (congrArg some (by kernel_rfl))
 f311:=Tryz.func258.trans (congrArg some (by kernel_rfl))
 f312:=Tryz.func259.trans (congrArg some (by kernel_rfl))
 t0:=Tryz.underlying0
 a0:=Tryz.isAgg0
 z0:=Tryz.sizeOf0
 v0:=Tryz.zeroValue0
 t3:=Tryz.underlying3
 a3:=Tryz.isAgg3
 z3:=Tryz.sizeOf3
 v3:=Tryz.zeroValue3
 t4:=Tryz.underlying4
 a4:=Tryz.isAgg4
 z4:=Tryz.sizeOf4
 v4:=Tryz.zeroValue4
 t5:=Tryz.underlying5
 a5:=Tryz.isAgg5
 z5:=Tryz.sizeOf5
 v5:=Tryz.zeroValue5
 t9:=Tryz.underlying9
 a9:=Tryz.isAgg9
 z9:=Tryz.sizeOf9
 v9:=Tryz.zeroValue9
 t21:=Tryz.underlying21
 a21:=Tryz.isAgg21
 z21:=Tryz.sizeOf21
 v21:=Tryz.zeroValue21
 t31:=Tryz.underlying25
 a31:=Tryz.isAgg25
 z31:=Tryz.sizeOf25
 v31:=Tryz.zeroValue25
 t40:=Tryz.underlying246
 a40:=Tryz.isAgg246
 z40:=Tryz.sizeOf246
 v40:=Tryz.zeroValue246
 t46:=Tryz.underlying142
 a46:=Tryz.isAgg142
 z46:=Tryz.sizeOf142
 v46:=Tryz.zeroValue142
 t49:=Tryz.underlying262
 a49:=Tryz.isAgg262
 z49:=Tryz.sizeOf262
 v49:=Tryz.zeroValue262
 t51:=Tryz.underlying172
 a51:=Tryz.isAgg172
 z51:=Tryz.sizeOf172
 v51:=Tryz.zeroValue172
 t119:=Tryz.underlying244
 a119:=Tryz.isAgg244
 z119:=Tryz.sizeOf244
 t141:=Tryz.underlying255
 a141:=Tryz.isAgg255
 z141:=Tryz.sizeOf255
 v141:=Tryz.zeroValue255
 t152:=Tryz.underlying251
 a152:=Tryz.isAgg251
 z152:=Tryz.sizeOf251
 v152:=Tryz.zeroValue251
 t154:=Tryz.underlying253
 a154:=Tryz.isAgg253
 z154:=Tryz.sizeOf253
 v154:=Tryz.zeroValue253
 t193:=Tryz.underlying258
 a193:=Tryz.isAgg258
 z193:=Tryz.sizeOf258
 v193:=Tryz.zeroValue258
 t194:=Tryz.underlying259
 a194:=Tryz.isAgg259
 z194:=Tryz.sizeOf259
 v194:=Tryz.zeroValue259
 t196:=Tryz.underlying261
 a196:=Tryz.isAgg261
 z196:=Tryz.sizeOf261
 v196:=Tryz.zeroValue261
 t198:=Tryz.underlying264
 a198:=Tryz.isAgg264
 z198:=Tryz.sizeOf264
 v198:=Tryz.zeroValue264
 t201:=Tryz.underlying267
 a201:=Tryz.isAgg267
 z201:=Tryz.sizeOf267
 v201:=Tryz.zeroValue267
 t226:=Tryz.underlying269
 a226:=Tryz.isAgg269
 z226:=Tryz.sizeOf269
 v226:=Tryz.zeroValue269
 t227:=Tryz.underlying270
 a227:=Tryz.isAgg270
 z227:=Tryz.sizeOf270
 v227:=Tryz.zeroValue270
 g0:=by kernel_rfl
 g6:=by kernel_rfl}
open Go.RowKit Go.Lib in
theorem Tryz.strings_Fields (s:ByteArray) (w:World) (hs:s.size<4294967281) (hascii: ∀(j:Nat) b,s.data.toList[j]? =some b→b.toNat<128) (htab:Lib.TabIs Tryz.prog w "strings.asciiSpace" .u8 Lib.asciiSpaceTab):
 Calls Tryz.prog 240 #[.string s] w fun e w'=>
  e=.returned (.slice (some ⟨w.heap.size,0,none⟩) (Lib.fields s.data.toList).length (Lib.fields s.data.toList).length)∧w'=w.alloc (.cells ((Lib.fields s.data.toList).map fun l=>Value.string ⟨l.toArray⟩).toArray 9):=Any.strings_Fields Tryz.lays157 (by kernel_rfl) (by kernel_rfl) s w hs hascii htab
end Go.Proofs
namespace Go.Proofs.YtkdhppfdiagglaaGreatDoor
open Go Go.Abs Go.RowKit
theorem vals1{imm:Addr->Option Value}{x:AV}{vals:Array Value}(h:RepL imm [] [x] vals): ∃a,vals=#[a]∧Rep imm [] x a:=by
 obtain⟨a1,a2⟩:=h
 obtain⟨v,rfl⟩:=Array.size_eq_one_iff.1 a1
 exact⟨v,rfl,a2 0 _ rfl⟩
theorem tab_of{P:Program}{w:World}(h:Tabs w){g:Nat}{k:IntKind}{zs:List Int}{name:String}(ht:(g,k,zs)∈tb)(hg:P.globalNamed name=some g):Lib.TabIs P w name k zs:=by
 obtain⟨ty,fr,h1⟩:=h _ ht
 have h2:w.heap[g]? =some (.cells (zs.map fun z=>Value.int k z).toArray ty fr):=h1
 simp only[Lib.TabIs,World.var?,hg,Option.bind_some,h2]
theorem pure_of_strs{P:Program}{f:FuncId}{args:List AV}{r:List (List UInt8)}{T:TypeId}(he:Abs.Enters P f)(hn:r.length<=281474976710656)(hz: ∀z∈r,z.length<=1152921504606846976)
 (h: ∀(imm:Addr->Option Value)(w:World)(vals:Array Value),(∀x v,imm x=some v->w.cell? x=some v)->GOk imm->Tabs w->RepL imm [] args vals->
  Calls P f vals w fun e w'=> ∃ps:List ByteArray,ps.map (·.data.toList)=r∧e=.returned (.slice (some ⟨w.heap.size,0,none⟩) r.length r.length)∧w'=w.alloc (.cells (ps.map Value.string).toArray T)):
 Pure P f args (.sl (r.map cS)):=by
 refine⟨he,fun imm w vals him hgl htb ha=>(h imm w vals him hgl htb ha).mono fun e w' he=>?_⟩
 obtain⟨ps,hD,rfl,rfl⟩:=he
 have hlt: ∀x v,imm x=some v->x.block<w.heap.size:=fun x v hx=>World.block_lt_of_cell? _ _ (him x v hx)
 refine⟨fun x=>if x.block=w.heap.size then (w.alloc (.cells (ps.map Value.string).toArray T)).cell? x else imm x,_,rfl,?_,fun x v hx=>?_,fun x v hx=>?_,Below.alloc (Below.refl _ _) (Nat.le_refl _) _,fun x v hx=>?_⟩
 ·refine .sl 1 _ ⟨w.heap.size,0,none⟩ _ _ (fun i _=>Value.string (ps.getD i default)) (by simp) (Nat.le_refl _) hn ?_ ?_ ?_
  ·intro i e he
   obtain⟨z,_,rfl⟩:=getElem?_map_some he
   rfl
  ·intro i e he j x hx
   obtain⟨z,hz',rfl⟩:=getElem?_map_some he
   rw[<-hD] at hz'
   obtain⟨p,hp,rfl⟩:=getElem?_map_some hz'
   have hj:j=0:=by
    rcases j with _|j
    ·rfl
    ·simp[cS] at hx
   subst hj
   have hadd:((⟨w.heap.size,0,none⟩:Addr).add (i*1+0))=⟨w.heap.size,i,none⟩:=by
    unfold Addr.add
    split
    ·rename_i h0;have:i=0:=by omega
     subst this;rfl
    ·simp
   rw[hadd]
   simp only[if_true]
   rw[World.cell?_alloc_new]
   simp[hp,zq5]
  ·intro i e he j x hx
   obtain⟨z,hz',rfl⟩:=getElem?_map_some he
   have hzl:z.length<=1152921504606846976:=hz z (zq3 hz')
   rw[<-hD] at hz'
   obtain⟨p,hp,rfl⟩:=getElem?_map_some hz'
   have hx':x=.str p.data.toList:=by
    rcases j with _|j
    ·simpa[cS] using hx.symm
    ·simp[cS] at hx
   subst hx'
   have:ps.getD i default=p:=by simp[zq5,hp]
   rw[this]
   exact .str _ _ rfl hzl
 ·have:=hlt x v hx
  show(if x.block=w.heap.size then _ else imm x)=some v
  rw[if_neg (by omega)];exact hx
 ·dsimp only at hx
  split at hx
  ·exact hx
  ·rw[World.cell?_alloc_lt _ _ _ (hlt x v hx)];exact him x v hx
 ·dsimp only at hx
  split at hx
  ·rename_i hb;exact .inr (by omega)
  ·exact .inl hx
theorem below_grown'(w:World)(n:Nat)(os:Array Obj):Below w.heap.size w (Go.Sort.grow (w.drewN n) os):=⟨rfl,rfl,rfl,by show _<=(w.heap++os).size;rw[Array.size_append];exact Nat.le_add_right _ _,fun k hk=>by show(w.heap++os)[k]? =_;rw[Array.getElem?_append_left hk]⟩
theorem zHN(s0:List UInt8)(r:List (List UInt8))(h:zDY s0=some r):Pure Tryz.prog 240 [.str s0] (.sl (r.map cS)):=by
 unfold zDY at h
 split at h
 case isFalse=>cases h
 rename_i hc
 obtain⟨c1,c2,c3,c4⟩:=hc
 cases h
 refine pure_of_strs (T:=9) ⟨Tryz.f240,Tryz.func240,by rfl,by rfl⟩ (by omega) (fun z hz=>by have:=of_decide_eq_true (zq8 c4 z hz);omega) fun imm w vals him hgl htb ha=>?_
 obtain⟨a,rfl,h1⟩:=vals1 ha
 cases h1 with
 |str s l hs hb=>
  have z1:s.size=s0.length:=by rw[<-hs];exact Array.length_toList.symm
  refine(Tryz.strings_Fields s w (by omega) (fun j b hb=>?_) (tab_of htb (g:=4) (by simp[tb,tb1,tb2]) (by kernel_rfl))).mono fun e w' he=>?_
  ·rw[hs] at hb
   exact of_decide_eq_true (zq8 c2 b (zq3 hb))
  ·obtain⟨rfl,rfl⟩:=he
   rw[hs]
   refine⟨(Lib.fields s0).map fun l=>⟨l.toArray⟩,?_,rfl,?_⟩
   ·rw[List.map_map]
    exact List.map_id' _
   ·rw[List.map_map];rfl
theorem zKt(n:Int)(r:List UInt8)(h:zHH n=some r):Pure Tryz.prog 193 [.int .i64 n] (.str r):=by
 unfold zHH at h
 split at h
 case isFalse=>cases h
 rename_i hc
 cases h
 refine zJe ⟨Tryz.f193,Tryz.func193,by rfl,by rfl⟩ fun imm w vals him hgl htb ha=>?_
 obtain⟨a,rfl,h1⟩:=vals1 ha
 cases h1 with
 |int k n hn=>
  have hn': -9223372036854775808<=n∧n<=9223372036854775807:=hn
  refine(Tryz.strconv_Itoa n hn'.1 hn'.2 w (tab_of htb (g:=3) (by simp[tb,tb1,tb2]) (by kernel_rfl))).mono fun e w' he=>?_
  obtain⟨rfl,k,os,rfl⟩:=he
  exact⟨_,rfl,.str _ _ (by simp) (by omega),below_grown' w k os⟩
theorem zJi(c:UInt8): ∀l:List UInt8,Lib.indexByte l c<=l.length
 |[]=>by simp[Lib.indexByte]
 |b::l=>by
  have:=zJi c l
  have e:((b::l).length:Int)=l.length+1:=by simp
  rw[e]
  unfold Lib.indexByte
  split
  ·omega
  ·split
   ·omega
   ·omega
theorem zIN(s0 t0:List UInt8)(r:Int)(h:zDx s0 t0=some r):Pure Tryz.prog 217 [.str s0,.str t0] (.int .i64 r):=by
 refine zJc ⟨Tryz.f217,Tryz.func217,by rfl,by rfl⟩ fun imm w vals ha=>?_
 obtain⟨a,b,rfl,h1,h2⟩:=vals2 ha
 unfold zDx at h
 split at h
 ·rename_i c
  cases h
  cases h1 with
  |str s l hs hb=>
   cases h2 with
   |str t l2 ht _=>
    have:=bytes_of ht;subst this
    refine(Tryz.stringslite_Index_one s c w).mono fun e w' he=>?_
    obtain⟨rfl,rfl⟩:=he
    refine⟨_,rfl,?_,rfl⟩
    rw[hs]
    refine .int .i64 _ ?_
    have:=Lib.indexByte_ge s0 c
    have:=zJi c s0
    simp only[inR]
    omega
 ·cases h
end Go.Proofs.YtkdhppfdiagglaaGreatDoor
