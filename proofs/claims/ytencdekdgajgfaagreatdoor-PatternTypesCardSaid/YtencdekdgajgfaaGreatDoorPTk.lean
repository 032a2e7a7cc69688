/- For every input the law PatternTypes returns true. Part 11 of 21. No condition. -/
import Derived.Test.YtencdekdgajgfaaGreatDoorPTj
import Derived.Shelf.Strings.Builder1
import Derived.Shelf.Strings.Builder2
import Derived.Shelf.Strings.OnBuilder
import Derived.Shelf.Strconv.Atoi
import Derived.Shelf.Strconv.Itoa0
import Derived.Shelf.Strconv.Itoa1
import Derived.Shelf.LaysM
import Derived.Shelf.Strconv.Itoa2
import Derived.Shelf.Strconv.AtoiErrFast
import Derived.Shelf.Strconv.ParseIntEmpty
import Derived.Shelf.Strconv.AtoiFail
import Derived.Shelf.Strconv.Clone
import Derived.Shelf.Strconv.SyntaxError
import Derived.Shelf.LaysC
import Derived.Shelf.Strconv.ToError
import Derived.Shelf.Strconv.AtoiErr
import Derived.Shelf.Strconv.Lower
import Derived.Shelf.Strconv.ParseUint10
import Derived.Shelf.Strconv.ParseUint10Empty
import Derived.Shelf.Strconv.ParseUint10Any
import Derived.Shelf.Strconv.ParseInt10
import Derived.Shelf.Strconv.AtoiLong
import Derived.Shelf.Strconv.AtoiInnerAll
import Derived.Shelf.Strconv.RangeError
import Derived.Shelf.Strconv.ToErrorRange
import Derived.Shelf.Strconv.AtoiAll
import Derived.Shelf.Strings.Search1
import Derived.Shelf.Strings.Search2
import Derived.Shelf.Strings.Cut
import Derived.Shelf.Strings.Shaped
import Derived.Shelf.Strings.Fields
import Derived.Shelf.Strings.SplitShaped
import Derived.Shelf.Unicode.Latin
import Derived.Shelf.Unicode.Is16White
import Derived.Shelf.Unicode.IsSpaceAny
import Derived.Shelf.Unicode.Is16Any
import Derived.Shelf.Unicode.Is32Any
import Derived.Shelf.Unicode.ExclAny
set_option linter.unusedVariables false
set_option linter.unnecessarySimpa false
set_option linter.unusedSimpArgs false
set_option maxRecDepth 100000
set_option maxHeartbeats 1000000
namespace Go.Proofs
open Go.Shelf
def Tryz.lays156_ren:Go.Shelf.Ren:=⟨fun|156=>86|165=>140|166=>134|169=>84|240=>175|241=>178|276=>204|277=>210|n=>n,fun|31=>28|9=>9|3=>3|4=>4|0=>0|20=>20|72=>124|76=>161|70=>122|37=>43|75=>152|127=>165|164=>203|5=>5|80=>119|n=>n,fun|n=>n⟩
theorem Tryz.lays156:Go.Proofs.Lays.n156 Tryz.prog Tryz.lays156_ren:={
 mixed:=by kernel_rfl
 f156:=Tryz.func86.trans (congrArg some (by kernel_rfl))
 f165:=Tryz.func140.trans (congrArg some (by kernel_rfl))
 f166:=Tryz.func134.trans (congrArg some (by kernel_rfl))
 f169:=Tryz.func84.trans (congrArg some (by kernel_rfl))
 f240:=Tryz.func175.trans (congrArg some (by kernel_rfl))
 f241:=Tryz.func178.trans (congrArg some (by kernel_rfl))
 f276:=Tryz.func204.trans (congrArg some (by kernel_rfl))
 f277:=Tryz.func210.trans (congrArg some (by kernel_rfl))
 t0:=Tryz.underlying0
 a0:=Tryz.isAgg0
 z0:=Tryz.sizeOf0
 v0:=Tryz.zeroValue0
 t3:=Tryz.underlying3
 a3:=Tryz.isAgg3
 z3:=Tryz.sizeOf3
 v3:=Tryz.zeroValue3
 t4:=Tryz.underlying4
 a4:=Tryz.isAgg4
 z4:=Tryz.sizeOf4
 v4:=Tryz.zeroValue4
 t9:=Tryz.underlying9
 a9:=Tryz.isAgg9
 z9:=Tryz.sizeOf9
 v9:=Tryz.zeroValue9
 t20:=Tryz.underlying20
 a20:=Tryz.isAgg20
 z20:=Tryz.sizeOf20
 v20:=Tryz.zeroValue20
 t31:=Tryz.underlying28
 a31:=Tryz.isAgg28
 z31:=Tryz.sizeOf28
 v31:=Tryz.zeroValue28
 t37:=Tryz.underlying43
 a37:=Tryz.isAgg43
 z37:=Tryz.sizeOf43
 v37:=Tryz.zeroValue43
 t70:=Tryz.underlying122
 a70:=Tryz.isAgg122
 z70:=Tryz.sizeOf122
 v70:=Tryz.zeroValue122
 t72:=Tryz.underlying124
 a72:=Tryz.isAgg124
 z72:=Tryz.sizeOf124
 v72:=Tryz.zeroValue124
 t75:=Tryz.underlying152
 a75:=Tryz.isAgg152
 z75:=Tryz.sizeOf152
 v75:=Tryz.zeroValue152
 t76:=Tryz.underlying161
 a76:=Tryz.isAgg161
 z76:=Tryz.sizeOf161
 v76:=Tryz.zeroValue161
 t127:=Tryz.underlying165
 a127:=Tryz.isAgg165
 z127:=Tryz.sizeOf165
 v127:=Tryz.zeroValue165
 t164:=Tryz.underlying203
 a164:=Tryz.isAgg203
 z164:=Tryz.sizeOf203
 v164:=Tryz.zeroValue203}
theorem Tryz.Builder_Extra_156:Builder.Extra Tryz.prog Tryz.lays156_ren:={
 sizeBuilder:=by kernel_rfl
 liesBuilder:=by kernel_rfl
 t5:=Tryz.underlying5
 a5:=Tryz.isAgg5
 z5:=Tryz.sizeOf5
 v5:=Tryz.zeroValue5
 infoByte:=by kernel_rfl
 cellsByte:=by kernel_rfl
 sizeByte:=by kernel_rfl
 neB5:=by decide}
open Go.RowKit in
theorem Tryz.strings_Join_none(a:Option Addr)(c:Nat)(sep:ByteArray)(w:World):
 Calls Tryz.prog 86 #[.slice a 0 c,.string sep] w fun e w'=>e=.returned (.string ⟨#[]⟩)∧w'=w:=Any.strings_Join_none Tryz.lays156 Tryz.Builder_Extra_156 a c sep w
open Go.RowKit in
theorem Tryz.strings_Join(bk o c:Nat)(xs:List ByteArray)(sep:ByteArray)(w:World)(hcells: ∀(j:Nat) x,xs[j]? =some x->w.cell? ⟨bk,o+j,none⟩=some (.string x))(hbk:bk<w.heap.size)(hN:xs.length<=140737488355328)(hcap:xs.length<=c)(hlen:(Lib.join (xs.map (·.data.toList)) sep.data.toList).length<=140737488355328):
 Calls Tryz.prog 86 #[.slice (some ⟨bk,o,none⟩) xs.length c,.string sep] w fun e w'=>e=.returned (.string ⟨(Lib.join (xs.map (·.data.toList)) sep.data.toList).toArray⟩)∧Below w.heap.size w w':=Any.strings_Join Tryz.lays156 Tryz.Builder_Extra_156 bk o c xs sep w hcells hbk hN hcap hlen
def Tryz.laysM171_ren:Go.Shelf.Ren:=⟨fun|171=>85|243=>139|246=>177|283=>206|284=>207|285=>208|286=>209|129=>224|317=>223|318=>225|319=>226|320=>227|337=>232|338=>233|n=>n,fun|3=>3|9=>9|2=>2|4=>4|171=>205|0=>0|53=>150|37=>43|5=>5|173=>208|212=>223|51=>214|20=>20|213=>224|46=>196|232=>239|233=>240|n=>n,fun|17=>3|18=>6|19=>7|n=>n⟩
theorem Tryz.laysM171:Go.Proofs.LaysM.n171 Tryz.prog Tryz.laysM171_ren:={
 mixed:=by kernel_rfl
 f129:=Tryz.func224.trans (congrArg some (by kernel_rfl))
 f171:=Tryz.func85.trans (congrArg some (by kernel_rfl))
 f243:=Tryz.func139.trans (congrArg some (by kernel_rfl))
 f246:=Tryz.func177.trans (congrArg some (by kernel_rfl))
 f283:=Tryz.func206.trans (congrArg some (by kernel_rfl))
 f284:=Tryz.func207.trans (congrArg some (by kernel_rfl))
 f285:=Tryz.func208.trans (congrArg some (by kernel_rfl))
 f286:=Tryz.func209.trans (congrArg some (by kernel_rfl))
 f317:=Tryz.func223.trans (congrArg some (by kernel_rfl))
 f318:=Tryz.func225.trans (congrArg some (by kernel_rfl))
 f319:=Tryz.func226.trans (congrArg some (by kernel_rfl))
 f320:=Tryz.func227.trans (congrArg some (by kernel_rfl))
 f337:=Tryz.func232.trans (congrArg some (by kernel_rfl))
 f338:=Tryz.func233.trans (congrArg some (by kernel_rfl))
 t0:=Tryz.underlying0
 a0:=Tryz.isAgg0
 z0:=Tryz.sizeOf0
 v0:=Tryz.zeroValue0
 t2:=Tryz.underlying2
 a2:=Tryz.isAgg2
 z2:=Tryz.sizeOf2
 v2:=Tryz.zeroValue2
 t3:=Tryz.underlying3
 a3:=Tryz.isAgg3
 z3:=Tryz.sizeOf3
 v3:=Tryz.zeroValue3
 t4:=Tryz.underlying4
 a4:=Tryz.isAgg4
 z4:=Tryz.sizeOf4
 v4:=Tryz.zeroValue4
 t5:=Tryz.underlying5
 a5:=Tryz.isAgg5
 z5:=Tryz.sizeOf5
 v5:=Tryz.zeroValue5
 t9:=Tryz.underlying9
 a9:=Tryz.isAgg9
 z9:=Tryz.sizeOf9
 v9:=Tryz.zeroValue9
 t20:=Tryz.underlying20
 a20:=Tryz.isAgg20
 z20:=Tryz.sizeOf20
 v20:=Tryz.zeroValue20
 t37:=Tryz.underlying43
 a37:=Tryz.isAgg43
 z37:=Tryz.sizeOf43
 v37:=Tryz.zeroValue43
 t46:=Tryz.underlying196
 a46:=Tryz.isAgg196
 z46:=Tryz.sizeOf196
 v46:=Tryz.zeroValue196
 t51:=Tryz.underlying214
 a51:=Tryz.isAgg214
 z51:=Tryz.sizeOf214
 v51:=Tryz.zeroValue214
 t53:=Tryz.underlying150
 a53:=Tryz.isAgg150
 z53:=Tryz.sizeOf150
 v53:=Tryz.zeroValue150
 t171:=Tryz.underlying205
 a171:=Tryz.isAgg205
 z171:=Tryz.sizeOf205
 v171:=Tryz.zeroValue205
 t173:=Tryz.underlying208
 a173:=Tryz.isAgg208
 z173:=Tryz.sizeOf208
 v173:=Tryz.zeroValue208
 t212:=Tryz.underlying223
 a212:=Tryz.isAgg223
 z212:=Tryz.sizeOf223
 v212:=Tryz.zeroValue223
 t213:=Tryz.underlying224
 a213:=Tryz.isAgg224
 z213:=Tryz.sizeOf224
 t232:=Tryz.underlying239
 a232:=Tryz.isAgg239
 z232:=Tryz.sizeOf239
 v232:=Tryz.zeroValue239
 t233:=Tryz.underlying240
 a233:=Tryz.isAgg240
 z233:=Tryz.sizeOf240
 v233:=Tryz.zeroValue240
 g17:=by kernel_rfl
 g18:=by kernel_rfl
 g19:=by kernel_rfl
 i0:=by kernel_rfl
 i2:=by kernel_rfl
 i3:=by kernel_rfl
 i4:=by kernel_rfl
 i5:=by kernel_rfl
 i9:=by kernel_rfl
 i20:=by kernel_rfl
 i37:=by kernel_rfl
 i46:=by kernel_rfl
 i51:=by kernel_rfl
 i53:=by kernel_rfl
 i171:=by kernel_rfl
 i173:=by kernel_rfl
 i212:=by kernel_rfl
 i232:=by kernel_rfl
 i233:=by kernel_rfl
 m17:=by kernel_rfl
 m18:=by kernel_rfl
 m19:=by kernel_rfl}
open Go.RowKit Go.Sort Go.Lib in
theorem Tryz.strconv_Itoa (n:Int) (h0: -9223372036854775808≤n) (h1:n≤9223372036854775807) (w:World) (htab:Lib.TabIs Tryz.prog w "internal/strconv.uint64pow10" .u64 Lib.pow10Tab):
 Calls Tryz.prog 85 #[.int .i64 n] w fun e w'=>e=.returned (.string ⟨(Lib.itoa n).toArray⟩)∧∃k os,w'=grow (w.drewN k) os:=Any.strconv_Itoa Tryz.laysM171 n h0 h1 w htab
def Tryz.laysC172_ren:Go.Shelf.Ren:=⟨fun|172=>176|244=>205|245=>174|247=>222|279=>200|280=>201|281=>202|282=>203|287=>173|316=>220|171=>85|205=>221|321=>198|322=>199|243=>139|246=>177|283=>206|284=>207|285=>208|286=>209|129=>224|317=>223|318=>225|319=>226|320=>227|337=>232|338=>233|n=>n,fun|9=>9|3=>3|75=>152|76=>161|4=>4|5=>5|167=>198|37=>43|0=>0|85=>220|2=>2|168=>200|53=>150|175=>153|46=>196|210=>218|127=>165|145=>232|143=>230|21=>21|171=>205|173=>208|212=>223|51=>214|20=>20|213=>224|232=>239|233=>240|80=>119|n=>n,fun|15=>1|16=>2|17=>3|18=>6|19=>7|n=>n⟩
theorem Tryz.laysC172:Go.Proofs.LaysC.n172 Tryz.prog Tryz.laysC172_ren:={
 mixed:=by kernel_rfl
 f129:=Tryz.func224.trans (congrArg some (by kernel_rfl))
 f171:=Tryz.func85.trans (congrArg some (by kernel_rfl))
 f172:=Tryz.func176.trans (congrArg some (by kernel_rfl))
 f205:=Tryz.func221.trans (congrArg some (by kernel_rfl))
 f243:=Tryz.func139.trans (congrArg some (by kernel_rfl))
 f244:=Tryz.func205.trans (congrArg some (by kernel_rfl))
 f245:=Tryz.func174.trans (congrArg some (by kernel_rfl))
 f246:=Tryz.func177.trans (congrArg some (by kernel_rfl))
 f247:=Tryz.func222.trans (congrArg some (by kernel_rfl))
 f279:=Tryz.func200.trans (congrArg some (by kernel_rfl))
 f280:=Tryz.func201.trans (congrArg some (by kernel_rfl))
 f281:=Tryz.func202.trans (congrArg some (by kernel_rfl))
 f282:=Tryz.func203.trans (congrArg some (by kernel_rfl))
 f283:=Tryz.func206.trans (congrArg some (by kernel_rfl))
 f284:=Tryz.func207.trans (congrArg some (by kernel_rfl))
 f285:=Tryz.func208.trans (congrArg some (by kernel_rfl))
 f286:=Tryz.func209.trans (congrArg some (by kernel_rfl))
 f287:=Tryz.func173.trans (congrArg some (by kernel_rfl))
 f316:=Tryz.func220.trans (congrArg some (by kernel_rfl))
 f317:=Tryz.func223.trans (congrArg some (by kernel_rfl))
 f318:=Tryz.func225.trans (congrArg some (by kernel_rfl))
 f319:=Tryz.func226.trans (congrArg some (by kernel_rfl))
 f320:=Tryz.func227.trans (congrArg some (by kernel_rfl))
 f321:=Tryz.func198.trans (congrArg some (by kernel_rfl))
 f322:=Tryz.func199.trans (congrArg some (by kernel_rfl))
 f337:=Tryz.func232.trans (congrArg some (by kernel_rfl))
 f338:=Tryz.func233.trans (congrArg some (by kernel_rfl))
 t0:=Tryz.underlying0
 a0:=Tryz.isAgg0
 z0:=Tryz.sizeOf0
 v0:=Tryz.zeroValue0
 t2:=Tryz.underlying2
 a2:=Tryz.isAgg2
 z2:=Tryz.sizeOf2
 v2:=Tryz.zeroValue2
 t3:=Tryz.underlying3
 a3:=Tryz.isAgg3
 z3:=Tryz.sizeOf3
 v3:=Tryz.zeroValue3
 t4:=Tryz.underlying4
 a4:=Tryz.isAgg4
 z4:=Tryz.sizeOf4
 v4:=Tryz.zeroValue4
 t5:=Tryz.underlying5
 a5:=Tryz.isAgg5
 z5:=Tryz.sizeOf5
 v5:=Tryz.zeroValue5
 t9:=Tryz.underlying9
 a9:=Tryz.isAgg9
 z9:=Tryz.sizeOf9
 v9:=Tryz.zeroValue9
 t20:=Tryz.underlying20
 a20:=Tryz.isAgg20
 z20:=Tryz.sizeOf20
 v20:=Tryz.zeroValue20
 t21:=Tryz.underlying21
 a21:=Tryz.isAgg21
 z21:=Tryz.sizeOf21
 v21:=Tryz.zeroValue21
 t37:=Tryz.underlying43
 a37:=Tryz.isAgg43
 z37:=Tryz.sizeOf43
 v37:=Tryz.zeroValue43
 t46:=Tryz.underlying196
 a46:=Tryz.isAgg196
 z46:=Tryz.sizeOf196
 v46:=Tryz.zeroValue196
 t51:=Tryz.underlying214
 a51:=Tryz.isAgg214
 z51:=Tryz.sizeOf214
 v51:=Tryz.zeroValue214
 t53:=Tryz.underlying150
 a53:=Tryz.isAgg150
 z53:=Tryz.sizeOf150
 v53:=Tryz.zeroValue150
 t75:=Tryz.underlying152
 a75:=Tryz.isAgg152
 z75:=Tryz.sizeOf152
 v75:=Tryz.zeroValue152
 t76:=Tryz.underlying161
 a76:=Tryz.isAgg161
 z76:=Tryz.sizeOf161
 v76:=Tryz.zeroValue161
 t85:=Tryz.underlying220
 a85:=Tryz.isAgg220
 z85:=Tryz.sizeOf220
 v85:=Tryz.zeroValue220
 t127:=Tryz.underlying165
 a127:=Tryz.isAgg165
 z127:=Tryz.sizeOf165
 v127:=Tryz.zeroValue165
 t143:=Tryz.underlying230
 a143:=Tryz.isAgg230
 z143:=Tryz.sizeOf230
 v143:=Tryz.zeroValue230
 t145:=Tryz.underlying232
 a145:=Tryz.isAgg232
 z145:=Tryz.sizeOf232
 v145:=Tryz.zeroValue232
 t167:=Tryz.underlying198
 a167:=Tryz.isAgg198
 z167:=Tryz.sizeOf198
 v167:=Tryz.zeroValue198
 t168:=Tryz.underlying200
 a168:=Tryz.isAgg200
 z168:=Tryz.sizeOf200
 v168:=Tryz.zeroValue200
 t171:=Tryz.underlying205
 a171:=Tryz.isAgg205
 z171:=Tryz.sizeOf205
 v171:=Tryz.zeroValue205
 t173:=Tryz.underlying208
 a173:=Tryz.isAgg208
 z173:=Tryz.sizeOf208
 v173:=Tryz.zeroValue208
 t175:=Tryz.underlying153
 a175:=Tryz.isAgg153
 z175:=Tryz.sizeOf153
 v175:=Tryz.zeroValue153
 t210:=Tryz.underlying218
 a210:=Tryz.isAgg218
 z210:=Tryz.sizeOf218
 v210:=Tryz.zeroValue218
 t212:=Tryz.underlying223
 a212:=Tryz.isAgg223
 z212:=Tryz.sizeOf223
 v212:=Tryz.zeroValue223
 t213:=Tryz.underlying224
 a213:=Tryz.isAgg224
 z213:=Tryz.sizeOf224
 t232:=Tryz.underlying239
 a232:=Tryz.isAgg239
 z232:=Tryz.sizeOf239
 v232:=Tryz.zeroValue239
 t233:=Tryz.underlying240
 a233:=Tryz.isAgg240
 z233:=Tryz.sizeOf240
 v233:=Tryz.zeroValue240
 g15:=by kernel_rfl
 g16:=by kernel_rfl
 g17:=by kernel_rfl
 g18:=by kernel_rfl
 g19:=by kernel_rfl
 t80:=Tryz.underlying119
 a80:=Tryz.isAgg119
 z80:=Tryz.sizeOf119
 v80:=Tryz.zeroValue119
 i0:=by kernel_rfl
 i2:=by kernel_rfl
 i3:=by kernel_rfl
 i4:=by kernel_rfl
 i5:=by kernel_rfl
 i9:=by kernel_rfl
 i20:=by kernel_rfl
 i21:=by kernel_rfl
 i37:=by kernel_rfl
 i46:=by kernel_rfl
 i51:=by kernel_rfl
 i53:=by kernel_rfl
 i75:=by kernel_rfl
 i76:=by kernel_rfl
 i80:=by kernel_rfl
 i85:=by kernel_rfl
 i127:=by kernel_rfl
 i143:=by kernel_rfl
 i145:=by kernel_rfl
 i167:=by kernel_rfl
 i168:=by kernel_rfl
 i171:=by kernel_rfl
 i173:=by kernel_rfl
 i175:=by kernel_rfl
 i210:=by kernel_rfl
 i212:=by kernel_rfl
 i232:=by kernel_rfl
 i233:=by kernel_rfl
 m15:=by kernel_rfl
 m16:=by kernel_rfl
 m17:=by kernel_rfl
 m18:=by kernel_rfl
 m19:=by kernel_rfl
 c0:=by kernel_rfl
 c2:=by kernel_rfl
 c3:=by kernel_rfl
 c4:=by kernel_rfl
 c5:=by kernel_rfl
 c9:=by kernel_rfl
 c20:=by kernel_rfl
 c21:=by kernel_rfl
 c37:=by kernel_rfl
 c46:=by kernel_rfl
 c51:=by kernel_rfl
 c53:=by kernel_rfl
 c75:=by kernel_rfl
 c76:=by kernel_rfl
 c80:=by kernel_rfl
 c85:=by kernel_rfl
 c127:=by kernel_rfl
 c143:=by kernel_rfl
 c145:=by kernel_rfl
 c167:=by kernel_rfl
 c168:=by kernel_rfl
 c171:=by kernel_rfl
 c173:=by kernel_rfl
 c175:=by kernel_rfl
 c210:=by kernel_rfl
 c212:=by kernel_rfl
 c213:=by kernel_rfl
 c232:=by kernel_rfl
 c233:=by kernel_rfl}
open Go.RowKit in
theorem Tryz.strconv_Atoi_ok(s:ByteArray)(hmax:s.size<=9223372036854775806)(v:Int)(h:Lib.atoiAll s.data.toList=.ok v)(w:World):
 Calls Tryz.prog 176 #[.string s] w fun e w'=>e=.returned (.tuple #[.int .i64 v,.nilIface])∧(w'=w∨∃t,w'=Lib.bytesWorld w 5 t):=Any.strconv_Atoi_ok Tryz.laysC172 s hmax v h w
open Go.RowKit in
theorem Tryz.strconv_Atoi_syntax(s:ByteArray)(hlim:s.size<=281474976710656)(h:Lib.atoiAll s.data.toList=(Lib.atoiAll []))(ev:Value)(w:World)(hv:w.cell? ⟨1,0,none⟩=some ev)(hev:ev=.nilIface∨∃te pe,ev=.iface te pe):
 Calls Tryz.prog 176 #[.string s] w fun e w'=> ∃N,e=.returned (.tuple #[.int .i64 (0),.iface 200 (.pointer (some ⟨N,0,none⟩))])∧w.heap.size<=N∧w'.heap[N]? =some (.cells #[.string ⟨#[65,116,111,105]⟩,.string s,ev] 218 (0,0))∧Below w.heap.size w w':=Any.strconv_Atoi_syntax Tryz.laysC172 s hlim h ev w hv hev
open Go.RowKit in
theorem Tryz.strconv_Atoi_range(s:ByteArray)(hlim:s.size<=281474976710656)(h:Lib.atoiAll s.data.toList=.range)(ev:Value)(w:World)(hv:w.cell? ⟨2,0,none⟩=some ev)(hev:ev=.nilIface∨∃te pe,ev=.iface te pe):
 Calls Tryz.prog 176 #[.string s] w fun e w'=> ∃N,e=.returned (.tuple #[.int .i64 (Lib.atoiSat s.data.toList),.iface 200 (.pointer (some ⟨N,0,none⟩))])∧w.heap.size<=N∧w'.heap[N]? =some (.cells #[.string ⟨#[65,116,111,105]⟩,.string s,ev] 218 (0,0))∧Below w.heap.size w w':=Any.strconv_Atoi_range Tryz.laysC172 s hlim h ev w hv hev
def Tryz.lays145_ren:Go.Shelf.Ren:=⟨fun|145=>76|220=>123|219=>171|217=>193|225=>194|224=>195|267=>196|266=>218|314=>219|n=>n,fun|9=>9|4=>4|59=>117|3=>3|5=>5|46=>196|146=>215|51=>214|n=>n,fun|1=>0|n=>n⟩
theorem Tryz.lays145:Go.Proofs.Lays.n145 Tryz.prog Tryz.lays145_ren:={
 mixed:=by kernel_rfl
 f145:=Tryz.func76.trans (congrArg some (by kernel_rfl))
 f217:=Tryz.func193.trans (congrArg some (by kernel_rfl))
 f219:=Tryz.func171.trans (congrArg some (by kernel_rfl))
 f220:=Tryz.func123.trans (congrArg some (by kernel_rfl))
 f224:=Tryz.func195.trans (congrArg some (by kernel_rfl))
 f225:=Tryz.func194.trans (congrArg some (by kernel_rfl))
 f266:=Tryz.func218.trans (congrArg some (by kernel_rfl))
 f267:=Tryz.func196.trans (congrArg some (by kernel_rfl))
 f314:=Tryz.func219.trans (congrArg some (by kernel_rfl))
 t3:=Tryz.underlying3
 a3:=Tryz.isAgg3
 z3:=Tryz.sizeOf3
 v3:=Tryz.zeroValue3
 t4:=Tryz.underlying4
 a4:=Tryz.isAgg4
 z4:=Tryz.sizeOf4
 v4:=Tryz.zeroValue4
 t5:=Tryz.underlying5
 a5:=Tryz.isAgg5
 z5:=Tryz.sizeOf5
 v5:=Tryz.zeroValue5
 t9:=Tryz.underlying9
 a9:=Tryz.isAgg9
 z9:=Tryz.sizeOf9
 v9:=Tryz.zeroValue9
 t46:=Tryz.underlying196
 a46:=Tryz.isAgg196
 z46:=Tryz.sizeOf196
 v46:=Tryz.zeroValue196
 t51:=Tryz.underlying214
 a51:=Tryz.isAgg214
 z51:=Tryz.sizeOf214
 v51:=Tryz.zeroValue214
 t59:=Tryz.underlying117
 a59:=Tryz.isAgg117
 z59:=Tryz.sizeOf117
 v59:=Tryz.zeroValue117
 t146:=Tryz.underlying215
 a146:=Tryz.isAgg215
 z146:=Tryz.sizeOf215
 v146:=Tryz.zeroValue215
 g1:=by kernel_rfl}
open Go.RowKit Go.Lib in
theorem Tryz.strings_Cut(s sep:ByteArray)(m:Int)(w:World)(hs:s.size<4294967281)(hm:w.cell? ⟨0,0,none⟩=some (.int .i64 m)):
 Calls Tryz.prog 76 #[.string s,.string sep] w fun e w'=>e=.returned (.tuple #[.string ⟨(Lib.cut s.data.toList sep.data.toList).1.toArray⟩,.string ⟨(Lib.cut s.data.toList sep.data.toList).2.1.toArray⟩,.bool (Lib.cut s.data.toList sep.data.toList).2.2])∧∃n,w'=w.drewN n:=Any.strings_Cut Tryz.lays145 s sep m w hs hm
def Tryz.lays157_ren:Go.Shelf.Ren:=⟨fun|157=>212|229=>229|199=>230|261=>234|311=>235|312=>236|n=>n,fun|9=>9|31=>28|3=>3|5=>5|4=>4|119=>226|0=>0|40=>228|152=>234|21=>21|154=>236|51=>214|141=>238|196=>244|193=>241|198=>247|49=>245|194=>242|201=>250|226=>252|46=>196|227=>253|n=>n,fun|0=>4|6=>5|n=>n⟩
theorem Tryz.lays157:Go.Proofs.Lays.n157 Tryz.prog Tryz.lays157_ren:={
 mixed:=by kernel_rfl
 f157:=Tryz.func212.trans (congrArg some (by kernel_rfl))
 f199:=Tryz.func230.trans (congrArg some (by kernel_rfl))
 f229:=Tryz.func229.trans (congrArg some (by kernel_rfl))
 f261:=Tryz.func234.trans (congrArg some (by kernel_rfl))
 f311:=Tryz.func235.trans (congrArg some (by kernel_rfl))
 f312:=Tryz.func236.trans (congrArg some (by kernel_rfl))
 t0:=Tryz.underlying0
 a0:=Tryz.isAgg0
 z0:=Tryz.sizeOf0
 v0:=Tryz.zeroValue0
 t3:=Tryz.underlying3
 a3:=Tryz.isAgg3
 z3:=Tryz.sizeOf3
 v3:=Tryz.zeroValue3
 t4:=Tryz.underlying4
 a4:=Tryz.isAgg4
 z4:=Tryz.sizeOf4
 v4:=Tryz.zeroValue4
 t5:=Tryz.underlying5
 a5:=Tryz.isAgg5
 z5:=Tryz.sizeOf5
 v5:=Tryz.zeroValue5
 t9:=Tryz.underlying9
 a9:=Tryz.isAgg9
 z9:=Tryz.sizeOf9
 v9:=Tryz.zeroValue9
 t21:=Tryz.underlying21
 a21:=Tryz.isAgg21
 z21:=Tryz.sizeOf21
 v21:=Tryz.zeroValue21
 t31:=Tryz.underlying28
 a31:=Tryz.isAgg28
 z31:=Tryz.sizeOf28
 v31:=Tryz.zeroValue28
 t40:=Tryz.underlying228
 a40:=Tryz.isAgg228
 z40:=Tryz.sizeOf228
 v40:=Tryz.zeroValue228
 t46:=Tryz.underlying196
 a46:=Tryz.isAgg196
 z46:=Tryz.sizeOf196
 v46:=Tryz.zeroValue196
 t49:=Tryz.underlying245
 a49:=Tryz.isAgg245
 z49:=Tryz.sizeOf245
 v49:=Tryz.zeroValue245
 t51:=Tryz.underlying214
 a51:=Tryz.isAgg214
 z51:=Tryz.sizeOf214
 v51:=Tryz.zeroValue214
 t119:=Tryz.underlying226
 a119:=Tryz.isAgg226
 z119:=Tryz.sizeOf226
 t141:=Tryz.underlying238
 a141:=Tryz.isAgg238
 z141:=Tryz.sizeOf238
 v141:=Tryz.zeroValue238
 t152:=Tryz.underlying234
 a152:=Tryz.isAgg234
 z152:=Tryz.sizeOf234
 v152:=Tryz.zeroValue234
 t154:=Tryz.underlying236
 a154:=Tryz.isAgg236
 z154:=Tryz.sizeOf236
 v154:=Tryz.zeroValue236
 t193:=Tryz.underlying241
 a193:=Tryz.isAgg241
 z193:=Tryz.sizeOf241
 v193:=Tryz.zeroValue241
 t194:=Tryz.underlying242
 a194:=Tryz.isAgg242
 z194:=Tryz.sizeOf242
 v194:=Tryz.zeroValue242
 t196:=Tryz.underlying244
 a196:=Tryz.isAgg244
 z196:=Tryz.sizeOf244
 v196:=Tryz.zeroValue244
 t198:=Tryz.underlying247
 a198:=Tryz.isAgg247
 z198:=Tryz.sizeOf247
 v198:=Tryz.zeroValue247
 t201:=Tryz.underlying250
 a201:=Tryz.isAgg250
 z201:=Tryz.sizeOf250
 v201:=Tryz.zeroValue250
 t226:=Tryz.underlying252
 a226:=Tryz.isAgg252
 z226:=Tryz.sizeOf252
 v226:=Tryz.zeroValue252
 t227:=Tryz.underlying253
 a227:=Tryz.isAgg253
 z227:=Tryz.sizeOf253
 v227:=Tryz.zeroValue253
 g0:=by kernel_rfl
 g6:=by kernel_rfl}
open Go.RowKit Go.Lib in
theorem Tryz.strings_Fields (s:ByteArray) (w:World) (hs:s.size<4294967281) (hascii: ∀(j:Nat) b,s.data.toList[j]? =some b→b.toNat<128) (htab:Lib.TabIs Tryz.prog w "strings.asciiSpace" .u8 Lib.asciiSpaceTab):
 Calls Tryz.prog 212 #[.string s] w fun e w'=>
  e=.returned (.slice (some ⟨w.heap.size,0,none⟩) (Lib.fields s.data.toList).length (Lib.fields s.data.toList).length)∧w'=w.alloc (.cells ((Lib.fields s.data.toList).map fun l=>Value.string ⟨l.toArray⟩).toArray 9):=Any.strings_Fields Tryz.lays157 (by kernel_rfl) (by kernel_rfl) s w hs hascii htab
end Go.Proofs
namespace Go.Proofs.YtencdekdgajgfaaGreatDoor
open Go Go.Abs Go.RowKit
theorem vals1{imm:Addr->Option Value}{x:AV}{vals:Array Value}(h:RepL imm [] [x] vals): ∃a,vals=#[a]∧Rep imm [] x a:=by
 obtain⟨a1,a2⟩:=h
 obtain⟨v,rfl⟩:=Array.size_eq_one_iff.1 a1
 exact⟨v,rfl,a2 0 _ rfl⟩
theorem tab_of{P:Program}{w:World}(h:Tabs w){g:Nat}{k:IntKind}{zs:List Int}{name:String}(ht:(g,k,zs)∈tb)(hg:P.globalNamed name=some g):Lib.TabIs P w name k zs:=by
 obtain⟨ty,fr,h1⟩:=h _ ht
 have h2:w.heap[g]? =some (.cells (zs.map fun z=>Value.int k z).toArray ty fr):=h1
 simp only[Lib.TabIs,World.var?,hg,Option.bind_some,h2]
theorem pure_of_strs{P:Program}{f:FuncId}{args:List AV}{r:List (List UInt8)}{T:TypeId}(he:Abs.Enters P f)(hn:r.length<=281474976710656)(hz: ∀z∈r,z.length<=1152921504606846976)
 (h: ∀(imm:Addr->Option Value)(w:World)(vals:Array Value),(∀x v,imm x=some v->w.cell? x=some v)->GOk imm->Tabs w->RepL imm [] args vals->
  Calls P f vals w fun e w'=> ∃ps:List ByteArray,ps.map (·.data.toList)=r∧e=.returned (.slice (some ⟨w.heap.size,0,none⟩) r.length r.length)∧w'=w.alloc (.cells (ps.map Value.string).toArray T)):
 Pure P f args (.sl (r.map cS)):=by
 refine⟨he,fun imm w vals him hgl htb ha=>(h imm w vals him hgl htb ha).mono fun e w' he=>?_⟩
 obtain⟨ps,hD,rfl,rfl⟩:=he
 have hlt: ∀x v,imm x=some v->x.block<w.heap.size:=fun x v hx=>World.block_lt_of_cell? _ _ (him x v hx)
 refine⟨fun x=>if x.block=w.heap.size then (w.alloc (.cells (ps.map Value.string).toArray T)).cell? x else imm x,_,rfl,?_,fun x v hx=>?_,fun x v hx=>?_,Below.alloc (Below.refl _ _) (Nat.le_refl _) _,fun x v hx=>?_⟩
 ·refine .sl 1 _ ⟨w.heap.size,0,none⟩ _ _ (fun i _=>Value.string (ps.getD i default)) (by simp) (Nat.le_refl _) hn ?_ ?_ ?_
  ·intro i e he
   obtain⟨z,_,rfl⟩:=getElem?_map_some he
   rfl
  ·intro i e he j x hx
   obtain⟨z,hz',rfl⟩:=getElem?_map_some he
   rw[<-hD] at hz'
   obtain⟨p,hp,rfl⟩:=getElem?_map_some hz'
   have hj:j=0:=by
    rcases j with _|j
    ·rfl
    ·simp[cS] at hx
   subst hj
   have hadd:((⟨w.heap.size,0,none⟩:Addr).add (i*1+0))=⟨w.heap.size,i,none⟩:=by
    unfold Addr.add
    split
    ·rename_i h0;have:i=0:=by omega
     subst this;rfl
    ·simp
   rw[hadd]
   simp only[if_true]
   rw[World.cell?_alloc_new]
   simp[hp,zq5]
  ·intro i e he j x hx
   obtain⟨z,hz',rfl⟩:=getElem?_map_some he
   have hzl:z.length<=1152921504606846976:=hz z (zq3 hz')
   rw[<-hD] at hz'
   obtain⟨p,hp,rfl⟩:=getElem?_map_some hz'
   have hx':x=.str p.data.toList:=by
    rcases j with _|j
    ·simpa[cS] using hx.symm
    ·simp[cS] at hx
   subst hx'
   have:ps.getD i default=p:=by simp[zq5,hp]
   rw[this]
   exact .str _ _ rfl hzl
 ·have:=hlt x v hx
  show(if x.block=w.heap.size then _ else imm x)=some v
  rw[if_neg (by omega)];exact hx
 ·dsimp only at hx
  split at hx
  ·exact hx
  ·rw[World.cell?_alloc_lt _ _ _ (hlt x v hx)];exact him x v hx
 ·dsimp only at hx
  split at hx
  ·rename_i hb;exact .inr (by omega)
  ·exact .inl hx
theorem below_grown'(w:World)(n:Nat)(os:Array Obj):Below w.heap.size w (Go.Sort.grow (w.drewN n) os):=⟨rfl,rfl,rfl,by show _<=(w.heap++os).size;rw[Array.size_append];exact Nat.le_add_right _ _,fun k hk=>by show(w.heap++os)[k]? =_;rw[Array.getElem?_append_left hk]⟩
theorem zGl(s0:List UInt8)(r:List (List UInt8))(h:zDY s0=some r):Pure Tryz.prog 212 [.str s0] (.sl (r.map cS)):=by
 unfold zDY at h
 split at h
 case isFalse=>cases h
 rename_i hc
 obtain⟨c1,c2,c3,c4⟩:=hc
 cases h
 refine pure_of_strs (T:=9) ⟨Tryz.f212,Tryz.func212,by rfl,by rfl⟩ (by omega) (fun z hz=>by have:=of_decide_eq_true (zq8 c4 z hz);omega) fun imm w vals him hgl htb ha=>?_
 obtain⟨a,rfl,h1⟩:=vals1 ha
 cases h1 with
 |str s l hs hb=>
  have z1:s.size=s0.length:=by rw[<-hs];exact Array.length_toList.symm
  refine(Tryz.strings_Fields s w (by omega) (fun j b hb=>?_) (tab_of htb (g:=4) (by simp[tb,tb1,tb2]) (by kernel_rfl))).mono fun e w' he=>?_
  ·rw[hs] at hb
   exact of_decide_eq_true (zq8 c2 b (zq3 hb))
  ·obtain⟨rfl,rfl⟩:=he
   rw[hs]
   refine⟨(Lib.fields s0).map fun l=>⟨l.toArray⟩,?_,rfl,?_⟩
   ·rw[List.map_map]
    exact List.map_id' _
   ·rw[List.map_map];rfl
theorem zHV(n:Int)(r:List UInt8)(h:zDl n=some r):Pure Tryz.prog 85 [.int .i64 n] (.str r):=by
 unfold zDl at h
 split at h
 case isFalse=>cases h
 rename_i hc
 cases h
 refine zG2 ⟨Tryz.f85,Tryz.func85,by rfl,by rfl⟩ fun imm w vals him hgl htb ha=>?_
 obtain⟨a,rfl,h1⟩:=vals1 ha
 cases h1 with
 |int k n hn=>
  have hn': -9223372036854775808<=n∧n<=9223372036854775807:=hn
  refine(Tryz.strconv_Itoa n hn'.1 hn'.2 w (tab_of htb (g:=3) (by simp[tb,tb1,tb2]) (by kernel_rfl))).mono fun e w' he=>?_
  obtain⟨rfl,k,os,rfl⟩:=he
  exact⟨_,rfl,.str _ _ (by simp) (by omega),below_grown' w k os⟩
end Go.Proofs.YtencdekdgajgfaaGreatDoor
