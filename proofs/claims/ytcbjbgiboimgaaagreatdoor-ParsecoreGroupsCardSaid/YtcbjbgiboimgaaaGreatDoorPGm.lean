/- For every input the law ParsecoreGroups returns true. Part 13 of 22. No condition. -/
import Derived.Test.YtcbjbgiboimgaaaGreatDoorPGl
import Derived.Shelf.Strings.Builder1
import Derived.Shelf.Strings.Builder2
import Derived.Shelf.Strings.OnBuilder
import Derived.Shelf.Small.Strs
import Derived.Shelf.Strings.BuilderF
import Derived.Shelf.Utf8.RuneCount
import Derived.Shelf.Strconv.Atoi
import Derived.Shelf.Strconv.Itoa0
import Derived.Shelf.Strconv.Itoa1
import Derived.Shelf.LaysM
import Derived.Shelf.Strconv.Itoa2
import Derived.Shelf.Strconv.AtoiErrFast
import Derived.Shelf.Strconv.ParseIntEmpty
import Derived.Shelf.Strconv.AtoiFail
import Derived.Shelf.Strconv.Clone
import Derived.Shelf.Strconv.SyntaxError
import Derived.Shelf.LaysC
import Derived.Shelf.Strconv.ToError
import Derived.Shelf.Strconv.AtoiErr
import Derived.Shelf.Strconv.Lower
import Derived.Shelf.Strconv.ParseUint10
import Derived.Shelf.Strconv.ParseUint10Empty
import Derived.Shelf.Strconv.ParseUint10Any
import Derived.Shelf.Strconv.ParseInt10
import Derived.Shelf.Strconv.AtoiLong
import Derived.Shelf.Strconv.AtoiInnerAll
import Derived.Shelf.Strconv.RangeError
import Derived.Shelf.Strconv.ToErrorRange
import Derived.Shelf.Strconv.AtoiAll
import Derived.Shelf.Strings.Search1
import Derived.Shelf.Strings.Search2
import Derived.Shelf.Strings.Search3
import Derived.Shelf.Strings.Count
import Derived.Shelf.Strings.Shaped
import Derived.Shelf.Strings.Prefix
import Derived.Shelf.Strings.Split
import Derived.Shelf.Strings.Fields
import Derived.Shelf.Strings.SplitShaped
import Derived.Shelf.Unicode.Latin
import Derived.Shelf.Strings.RuneCount
import Derived.Shelf.Bits.Mul64
import Derived.Shelf.Strings.Repeat
import Derived.Shelf.Unicode.Is16White
import Derived.Shelf.Unicode.IsSpaceAny
import Derived.Shelf.Unicode.Is16Any
import Derived.Shelf.Unicode.Is32Any
import Derived.Shelf.Unicode.ExclAny
set_option linter.unusedVariables false
set_option linter.unnecessarySimpa false
set_option linter.unusedSimpArgs false
set_option maxRecDepth 100000
set_option maxHeartbeats 4000000
namespace Go.Proofs
open Go.Shelf
def Tryz.laysC172_ren:Go.Shelf.Ren:=⟨fun|172=>141|244=>145|245=>146|247=>148|279=>149|280=>150|281=>151|282=>152|287=>155|316=>156|171=>158|205=>157|321=>159|322=>160|243=>161|246=>162|283=>163|284=>164|285=>165|286=>166|129=>168|317=>167|318=>169|319=>170|320=>171|337=>172|338=>173|n=>n,fun|9=>9|3=>3|75=>78|76=>79|4=>4|5=>5|167=>160|37=>73|0=>0|85=>161|2=>2|168=>163|53=>103|175=>176|46=>69|210=>180|127=>106|145=>187|143=>185|21=>21|171=>189|173=>192|212=>195|51=>100|20=>20|213=>196|232=>199|233=>200|80=>81|n=>n,fun|15=>3|16=>4|17=>5|18=>6|19=>7|n=>n⟩
theorem Tryz.laysC172:Go.Proofs.LaysC.n172 Tryz.prog Tryz.laysC172_ren:={
 mixed:=by kernel_rfl
 f129:=Tryz.func168.trans (congrArg some (by kernel_rfl))
 f171:=Tryz.func158.trans (congrArg some (by kernel_rfl))
 f172:=Tryz.func141.trans (congrArg some (by kernel_rfl))
 f205:=Tryz.func157.trans (congrArg some (by kernel_rfl))
 f243:=Tryz.func161.trans (congrArg some (by kernel_rfl))
 f244:=Tryz.func145.trans (congrArg some (by kernel_rfl))
 f245:=Tryz.func146.trans (congrArg some (by kernel_rfl))
 f246:=Tryz.func162.trans (congrArg some (by kernel_rfl))
 f247:=Tryz.func148.trans (congrArg some (by kernel_rfl))
 f279:=Tryz.func149.trans (congrArg some (by kernel_rfl))
 f280:=Tryz.func150.trans (congrArg some (by kernel_rfl))
 f281:=Tryz.func151.trans (congrArg some (by kernel_rfl))
 f282:=Tryz.func152.trans (congrArg some (by kernel_rfl))
 f283:=Tryz.func163.trans (congrArg some (by kernel_rfl))
 f284:=Tryz.func164.trans (congrArg some (by kernel_rfl))
 f285:=Tryz.func165.trans (congrArg some (by kernel_rfl))
 f286:=Tryz.func166.trans (congrArg some (by kernel_rfl))
 f287:=Tryz.func155.trans (congrArg some (by kernel_rfl))
 f316:=Tryz.func156.trans (congrArg some (by kernel_rfl))
 f317:=Tryz.func167.trans (congrArg some (by kernel_rfl))
 f318:=Tryz.func169.trans (congrArg some (by kernel_rfl))
 f319:=Tryz.func170.trans (congrArg some (by kernel_rfl))
 f320:=Tryz.func171.trans (congrArg some (by kernel_rfl))
 f321:=Tryz.func159.trans (congrArg some (by kernel_rfl))
 f322:=Tryz.func160.trans (congrArg some (by kernel_rfl))
 f337:=Tryz.func172.trans (congrArg some (by kernel_rfl))
 f338:=Tryz.func173.trans (congrArg some (by kernel_rfl))
 t0:=Tryz.underlying0
 a0:=Tryz.isAgg0
 z0:=Tryz.sizeOf0
 v0:=Tryz.zeroValue0
 t2:=Tryz.underlying2
 a2:=Tryz.isAgg2
 z2:=Tryz.sizeOf2
 v2:=Tryz.zeroValue2
 t3:=Tryz.underlying3
 a3:=Tryz.isAgg3
 z3:=Tryz.sizeOf3
 v3:=Tryz.zeroValue3
 t4:=Tryz.underlying4
 a4:=Tryz.isAgg4
 z4:=Tryz.sizeOf4
 v4:=Tryz.zeroValue4
 t5:=Tryz.underlying5
 a5:=Tryz.isAgg5
 z5:=Tryz.sizeOf5
 v5:=Tryz.zeroValue5
 t9:=Tryz.underlying9
 a9:=Tryz.isAgg9
 z9:=Tryz.sizeOf9
 v9:=Tryz.zeroValue9
 t20:=Tryz.underlying20
 a20:=Tryz.isAgg20
 z20:=Tryz.sizeOf20
 v20:=Tryz.zeroValue20
 t21:=Tryz.underlying21
 a21:=Tryz.isAgg21
 z21:=Tryz.sizeOf21
 v21:=Tryz.zeroValue21
 t37:=Tryz.underlying73
 a37:=Tryz.isAgg73
 z37:=Tryz.sizeOf73
 v37:=Tryz.zeroValue73
 t46:=Tryz.underlying69
 a46:=Tryz.isAgg69
 z46:=Tryz.sizeOf69
 v46:=Tryz.zeroValue69
 t51:=Tryz.underlying100
 a51:=Tryz.isAgg100
 z51:=Tryz.sizeOf100
 v51:=Tryz.zeroValue100
 t53:=Tryz.underlying103
 a53:=Tryz.isAgg103
 z53:=Tryz.sizeOf103
 v53:=Tryz.zeroValue103
 t75:=Tryz.underlying78
 a75:=Tryz.isAgg78
 z75:=Tryz.sizeOf78
 v75:=Tryz.zeroValue78
 t76:=Tryz.underlying79
 a76:=Tryz.isAgg79
 z76:=Tryz.sizeOf79
 v76:=Tryz.zeroValue79
 t85:=Tryz.underlying161
 a85:=Tryz.isAgg161
 z85:=Tryz.sizeOf161
 v85:=Tryz.zeroValue161
 t127:=Tryz.underlying106
 a127:=Tryz.isAgg106
 z127:=Tryz.sizeOf106
 v127:=Tryz.zeroValue106
 t143:=Tryz.underlying185
 a143:=Tryz.isAgg185
 z143:=Tryz.sizeOf185
 v143:=Tryz.zeroValue185
 t145:=Tryz.underlying187
 a145:=Tryz.isAgg187
 z145:=Tryz.sizeOf187
 v145:=Tryz.zeroValue187
 t167:=Tryz.underlying160
 a167:=Tryz.isAgg160
 z167:=Tryz.sizeOf160
 v167:=Tryz.zeroValue160
 t168:=Tryz.underlying163
 a168:=Tryz.isAgg163
 z168:=Tryz.sizeOf163
 v168:=Tryz.zeroValue163
 t171:=Tryz.underlying189
 a171:=Tryz.isAgg189
 z171:=Tryz.sizeOf189
 v171:=Tryz.zeroValue189
 t173:=Tryz.underlying192
 a173:=Tryz.isAgg192
 z173:=Tryz.sizeOf192
 v173:=Tryz.zeroValue192
 t175:=Tryz.underlying176
 a175:=Tryz.isAgg176
 z175:=Tryz.sizeOf176
 v175:=Tryz.zeroValue176
 t210:=Tryz.underlying180
 a210:=Tryz.isAgg180
 z210:=Tryz.sizeOf180
 v210:=Tryz.zeroValue180
 t212:=Tryz.underlying195
 a212:=Tryz.isAgg195
 z212:=Tryz.sizeOf195
 v212:=Tryz.zeroValue195
 t213:=Tryz.underlying196
 a213:=Tryz.isAgg196
 z213:=Tryz.sizeOf196
 t232:=Tryz.underlying199
 a232:=Tryz.isAgg199
 z232:=Tryz.sizeOf199
 v232:=Tryz.zeroValue199
 t233:=Tryz.underlying200
 a233:=Tryz.isAgg200
 z233:=Tryz.sizeOf200
 v233:=Tryz.zeroValue200
 g15:=by kernel_rfl
 g16:=by kernel_rfl
 g17:=by kernel_rfl
 g18:=by kernel_rfl
 g19:=by kernel_rfl
 t80:=Tryz.underlying81
 a80:=Tryz.isAgg81
 z80:=Tryz.sizeOf81
 v80:=Tryz.zeroValue81
 i0:=by kernel_rfl
 i2:=by kernel_rfl
 i3:=by kernel_rfl
 i4:=by kernel_rfl
 i5:=by kernel_rfl
 i9:=by kernel_rfl
 i20:=by kernel_rfl
 i21:=by kernel_rfl
 i37:=by kernel_rfl
 i46:=by kernel_rfl
 i51:=by kernel_rfl
 i53:=by kernel_rfl
 i75:=by kernel_rfl
 i76:=by kernel_rfl
 i80:=by kernel_rfl
 i85:=by kernel_rfl
 i127:=by kernel_rfl
 i143:=by kernel_rfl
 i145:=by kernel_rfl
 i167:=by kernel_rfl
 i168:=by kernel_rfl
 i171:=by kernel_rfl
 i173:=by kernel_rfl
 i175:=by kernel_rfl
 i210:=by kernel_rfl
 i212:=by kernel_rfl
 i232:=by kernel_rfl
 i233:=by kernel_rfl
 m15:=by kernel_rfl
 m16:=by kernel_rfl
 m17:=by kernel_rfl
 m18:=by kernel_rfl
 m19:=by kernel_rfl
 c0:=by kernel_rfl
 c2:=by kernel_rfl
 c3:=by kernel_rfl
 c4:=by kernel_rfl
 c5:=by kernel_rfl
 c9:=by kernel_rfl
 c20:=by kernel_rfl
 c21:=by kernel_rfl
 c37:=by kernel_rfl
 c46:=by kernel_rfl
 c51:=by kernel_rfl
 c53:=by kernel_rfl
 c75:=by kernel_rfl
 c76:=by kernel_rfl
 c80:=by kernel_rfl
 c85:=by kernel_rfl
 c127:=by kernel_rfl
 c143:=by kernel_rfl
 c145:=by kernel_rfl
 c167:=by kernel_rfl
 c168:=by kernel_rfl
 c171:=by kernel_rfl
 c173:=by kernel_rfl
 c175:=by kernel_rfl
 c210:=by kernel_rfl
 c212:=by kernel_rfl
 c213:=by kernel_rfl
 c232:=by kernel_rfl
 c233:=by kernel_rfl}
open Go.RowKit in
theorem Tryz.strconv_Atoi_ok(s:ByteArray)(hmax:s.size<=9223372036854775806)(v:Int)(h:Lib.atoiAll s.data.toList=.ok v)(w:World):
 Calls Tryz.prog 141 #[.string s] w fun e w'=>e=.returned (.tuple #[.int .i64 v,.nilIface])∧(w'=w∨∃t,w'=Lib.bytesWorld w 5 t):=Any.strconv_Atoi_ok Tryz.laysC172 s hmax v h w
open Go.RowKit in
theorem Tryz.strconv_Atoi_syntax(s:ByteArray)(hlim:s.size<=281474976710656)(h:Lib.atoiAll s.data.toList=(Lib.atoiAll []))(ev:Value)(w:World)(hv:w.cell? ⟨3,0,none⟩=some ev)(hev:ev=.nilIface∨∃te pe,ev=.iface te pe):
 Calls Tryz.prog 141 #[.string s] w fun e w'=> ∃N,e=.returned (.tuple #[.int .i64 (0),.iface 163 (.pointer (some ⟨N,0,none⟩))])∧w.heap.size<=N∧w'.heap[N]? =some (.cells #[.string ⟨#[65,116,111,105]⟩,.string s,ev] 180 (0,0))∧Below w.heap.size w w':=Any.strconv_Atoi_syntax Tryz.laysC172 s hlim h ev w hv hev
open Go.RowKit in
theorem Tryz.strconv_Atoi_range(s:ByteArray)(hlim:s.size<=281474976710656)(h:Lib.atoiAll s.data.toList=.range)(ev:Value)(w:World)(hv:w.cell? ⟨4,0,none⟩=some ev)(hev:ev=.nilIface∨∃te pe,ev=.iface te pe):
 Calls Tryz.prog 141 #[.string s] w fun e w'=> ∃N,e=.returned (.tuple #[.int .i64 (Lib.atoiSat s.data.toList),.iface 163 (.pointer (some ⟨N,0,none⟩))])∧w.heap.size<=N∧w'.heap[N]? =some (.cells #[.string ⟨#[65,116,111,105]⟩,.string s,ev] 180 (0,0))∧Below w.heap.size w w':=Any.strconv_Atoi_range Tryz.laysC172 s hlim h ev w hv hev
def Tryz.lays157_ren:Go.Shelf.Ren:=⟨fun|157=>136|229=>143|199=>144|261=>147|311=>153|312=>154|n=>n,fun|9=>9|31=>23|3=>3|5=>5|4=>4|119=>151|0=>0|40=>153|152=>155|21=>21|154=>157|51=>100|141=>159|196=>169|193=>166|198=>171|49=>53|194=>167|201=>174|226=>182|46=>69|227=>183|n=>n,fun|0=>1|6=>2|n=>n⟩
theorem Tryz.lays157:Go.Proofs.Lays.n157 Tryz.prog Tryz.lays157_ren:={
 mixed:=by kernel_rfl
 f157:=Tryz.func136.trans (congrArg some (by kernel_rfl))
 f199:=Tryz.func144.trans (congrArg some (by kernel_rfl))
 f229:=Tryz.func143.trans (congrArg some (by kernel_rfl))
 f261:=Tryz.func147.trans (congrArg some (by kernel_rfl))
 f311:=Tryz.func153.trans (congrArg some (by kernel_rfl))
 f312:=Tryz.func154.trans (congrArg some (by kernel_rfl))
 t0:=Tryz.underlying0
 a0:=Tryz.isAgg0
 z0:=Tryz.sizeOf0
 v0:=Tryz.zeroValue0
 t3:=Tryz.underlying3
 a3:=Tryz.isAgg3
 z3:=Tryz.sizeOf3
 v3:=Tryz.zeroValue3
 t4:=Tryz.underlying4
 a4:=Tryz.isAgg4
 z4:=Tryz.sizeOf4
 v4:=Tryz.zeroValue4
 t5:=Tryz.underlying5
 a5:=Tryz.isAgg5
 z5:=Tryz.sizeOf5
 v5:=Tryz.zeroValue5
 t9:=Tryz.underlying9
 a9:=Tryz.isAgg9
 z9:=Tryz.sizeOf9
 v9:=Tryz.zeroValue9
 t21:=Tryz.underlying21
 a21:=Tryz.isAgg21
 z21:=Tryz.sizeOf21
 v21:=Tryz.zeroValue21
 t31:=Tryz.underlying23
 a31:=Tryz.isAgg23
 z31:=Tryz.sizeOf23
 v31:=Tryz.zeroValue23
 t40:=Tryz.underlying153
 a40:=Tryz.isAgg153
 z40:=Tryz.sizeOf153
 v40:=Tryz.zeroValue153
 t46:=Tryz.underlying69
 a46:=Tryz.isAgg69
 z46:=Tryz.sizeOf69
 v46:=Tryz.zeroValue69
 t49:=Tryz.underlying53
 a49:=Tryz.isAgg53
 z49:=Tryz.sizeOf53
 v49:=Tryz.zeroValue53
 t51:=Tryz.underlying100
 a51:=Tryz.isAgg100
 z51:=Tryz.sizeOf100
 v51:=Tryz.zeroValue100
 t119:=Tryz.underlying151
 a119:=Tryz.isAgg151
 z119:=Tryz.sizeOf151
 t141:=Tryz.underlying159
 a141:=Tryz.isAgg159
 z141:=Tryz.sizeOf159
 v141:=Tryz.zeroValue159
 t152:=Tryz.underlying155
 a152:=Tryz.isAgg155
 z152:=Tryz.sizeOf155
 v152:=Tryz.zeroValue155
 t154:=Tryz.underlying157
 a154:=Tryz.isAgg157
 z154:=Tryz.sizeOf157
 v154:=Tryz.zeroValue157
 t193:=Tryz.underlying166
 a193:=Tryz.isAgg166
 z193:=Tryz.sizeOf166
 v193:=Tryz.zeroValue166
 t194:=Tryz.underlying167
 a194:=Tryz.isAgg167
 z194:=Tryz.sizeOf167
 v194:=Tryz.zeroValue167
 t196:=Tryz.underlying169
 a196:=Tryz.isAgg169
 z196:=Tryz.sizeOf169
 v196:=Tryz.zeroValue169
 t198:=Tryz.underlying171
 a198:=Tryz.isAgg171
 z198:=Tryz.sizeOf171
 v198:=Tryz.zeroValue171
 t201:=Tryz.underlying174
 a201:=Tryz.isAgg174
 z201:=Tryz.sizeOf174
 v201:=Tryz.zeroValue174
 t226:=Tryz.underlying182
 a226:=Tryz.isAgg182
 z226:=Tryz.sizeOf182
 v226:=Tryz.zeroValue182
 t227:=Tryz.underlying183
 a227:=Tryz.isAgg183
 z227:=Tryz.sizeOf183
 v227:=Tryz.zeroValue183
 g0:=by kernel_rfl
 g6:=by kernel_rfl}
open Go.RowKit Go.Lib in
theorem Tryz.strings_Fields (s:ByteArray) (w:World) (hs:s.size<4294967281) (hascii: ∀(j:Nat) b,s.data.toList[j]? =some b→b.toNat<128) (htab:Lib.TabIs Tryz.prog w "strings.asciiSpace" .u8 Lib.asciiSpaceTab):
 Calls Tryz.prog 136 #[.string s] w fun e w'=>
  e=.returned (.slice (some ⟨w.heap.size,0,none⟩) (Lib.fields s.data.toList).length (Lib.fields s.data.toList).length)∧w'=w.alloc (.cells ((Lib.fields s.data.toList).map fun l=>Value.string ⟨l.toArray⟩).toArray 9):=Any.strings_Fields Tryz.lays157 (by kernel_rfl) (by kernel_rfl) s w hs hascii htab
end Go.Proofs
namespace Go.Proofs.YtcbjbgiboimgaaaGreatDoor
open Go Go.Abs Go.RowKit
theorem vals1{imm:Addr->Option Value}{x:AV}{vals:Array Value}(h:RepL imm [] [x] vals): ∃a,vals=#[a]∧Rep imm [] x a:=by
 obtain⟨a1,a2⟩:=h
 obtain⟨v,rfl⟩:=Array.size_eq_one_iff.1 a1
 exact⟨v,rfl,a2 0 _ rfl⟩
theorem tab_of{P:Program}{w:World}(h:Tabs w){g:Nat}{k:IntKind}{zs:List Int}{name:String}(ht:(g,k,zs)∈tb)(hg:P.globalNamed name=some g):Lib.TabIs P w name k zs:=by
 obtain⟨ty,fr,h1⟩:=h _ ht
 have h2:w.heap[g]? =some (.cells (zs.map fun z=>Value.int k z).toArray ty fr):=h1
 simp only[Lib.TabIs,World.var?,hg,Option.bind_some,h2]
theorem pure_of_strs{P:Program}{f:FuncId}{args:List AV}{r:List (List UInt8)}{T:TypeId}(he:Abs.Enters P f)(hn:r.length<=281474976710656)(hz: ∀z∈r,z.length<=1152921504606846976)
 (h: ∀(imm:Addr->Option Value)(w:World)(vals:Array Value),(∀x v,imm x=some v->w.cell? x=some v)->GOk imm->Tabs w->RepL imm [] args vals->
  Calls P f vals w fun e w'=> ∃ps:List ByteArray,ps.map (·.data.toList)=r∧e=.returned (.slice (some ⟨w.heap.size,0,none⟩) r.length r.length)∧w'=w.alloc (.cells (ps.map Value.string).toArray T)):
 Pure P f args (.sl (r.map cS)):=by
 refine⟨he,fun imm w vals him hgl htb ha=>(h imm w vals him hgl htb ha).mono fun e w' he=>?_⟩
 obtain⟨ps,hD,rfl,rfl⟩:=he
 have hlt: ∀x v,imm x=some v->x.block<w.heap.size:=fun x v hx=>World.block_lt_of_cell? _ _ (him x v hx)
 refine⟨fun x=>if x.block=w.heap.size then (w.alloc (.cells (ps.map Value.string).toArray T)).cell? x else imm x,_,rfl,?_,fun x v hx=>?_,fun x v hx=>?_,Below.alloc (Below.refl _ _) (Nat.le_refl _) _,fun x v hx=>?_⟩
 ·refine .sl 1 _ ⟨w.heap.size,0,none⟩ _ _ (fun i _=>Value.string (ps.getD i default)) (by simp) (Nat.le_refl _) hn ?_ ?_ ?_
  ·intro i e he
   obtain⟨z,_,rfl⟩:=getElem?_map_some he
   rfl
  ·intro i e he j x hx
   obtain⟨z,hz',rfl⟩:=getElem?_map_some he
   rw[<-hD] at hz'
   obtain⟨p,hp,rfl⟩:=getElem?_map_some hz'
   have hj:j=0:=by
    rcases j with _|j
    ·rfl
    ·simp[cS] at hx
   subst hj
   have hadd:((⟨w.heap.size,0,none⟩:Addr).add (i*1+0))=⟨w.heap.size,i,none⟩:=by
    unfold Addr.add
    split
    ·rename_i h0;have:i=0:=by omega
     subst this;rfl
    ·simp
   rw[hadd]
   simp only[if_true]
   rw[World.cell?_alloc_new]
   simp[hp,zq5]
  ·intro i e he j x hx
   obtain⟨z,hz',rfl⟩:=getElem?_map_some he
   have hzl:z.length<=1152921504606846976:=hz z (zq3 hz')
   rw[<-hD] at hz'
   obtain⟨p,hp,rfl⟩:=getElem?_map_some hz'
   have hx':x=.str p.data.toList:=by
    rcases j with _|j
    ·simpa[cS] using hx.symm
    ·simp[cS] at hx
   subst hx'
   have:ps.getD i default=p:=by simp[zq5,hp]
   rw[this]
   exact .str _ _ rfl hzl
 ·have:=hlt x v hx
  show(if x.block=w.heap.size then _ else imm x)=some v
  rw[if_neg (by omega)];exact hx
 ·dsimp only at hx
  split at hx
  ·exact hx
  ·rw[World.cell?_alloc_lt _ _ _ (hlt x v hx)];exact him x v hx
 ·dsimp only at hx
  split at hx
  ·rename_i hb;exact .inr (by omega)
  ·exact .inl hx
theorem zIJ(s0:List UInt8)(r:List (List UInt8))(h:zEk s0=some r):Pure Tryz.prog 136 [.str s0] (.sl (r.map cS)):=by
 unfold zEk at h
 split at h
 case isFalse=>cases h
 rename_i hc
 obtain⟨c1,c2,c3,c4⟩:=hc
 cases h
 refine pure_of_strs (T:=9) ⟨Tryz.f136,Tryz.func136,by rfl,by rfl⟩ (by omega) (fun z hz=>by have:=of_decide_eq_true (zq8 c4 z hz);omega) fun imm w vals him hgl htb ha=>?_
 obtain⟨a,rfl,h1⟩:=vals1 ha
 cases h1 with
 |str s l hs hb=>
  have z1:s.size=s0.length:=by rw[<-hs];exact Array.length_toList.symm
  refine(Tryz.strings_Fields s w (by omega) (fun j b hb=>?_) (tab_of htb (g:=1) (by simp[tb,tb1,tb2]) (by kernel_rfl))).mono fun e w' he=>?_
  ·rw[hs] at hb
   exact of_decide_eq_true (zq8 c2 b (zq3 hb))
  ·obtain⟨rfl,rfl⟩:=he
   rw[hs]
   refine⟨(Lib.fields s0).map fun l=>⟨l.toArray⟩,?_,rfl,?_⟩
   ·rw[List.map_map]
    exact List.map_id' _
   ·rw[List.map_map];rfl
end Go.Proofs.YtcbjbgiboimgaaaGreatDoor
