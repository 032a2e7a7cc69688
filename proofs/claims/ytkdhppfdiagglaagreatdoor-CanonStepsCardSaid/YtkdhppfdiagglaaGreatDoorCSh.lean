/- CanonSteps holds: for every input the law returns true. No condition. Part 8 of 19. No condition. -/
import Derived.Test.YtkdhppfdiagglaaGreatDoorCSg
import Derived.Test.YtkdhppfdiagglaaGreatDoorProg
import Derived.KernelRfl
set_option linter.unusedVariables false
set_option linter.unnecessarySimpa false
set_option linter.unusedSimpArgs false
set_option maxRecDepth 100000
set_option maxHeartbeats 4000000
namespace Go.Proofs.YtkdhppfdiagglaaGreatDoor
open Go Go.Abs
@[reducible,simp] def iI(n:Int):AV:=.int .i64 n
@[reducible,simp] def pT(b:Nat):AV:=.mptr b 0
theorem pB {f:FuncId} {fn:Func} {c:Code} {args:List AV} {res:AV} (hf:Tryz.prog.funcs[f]? =some fn) (h:AWp Tryz.prog c (Ret Tryz.prog fn fun r _=>r=res) (Go.Abs.start fn.ntmps 0 args [])) (hname:(fn.name== "runtime.NumGoroutine")=false:=by rfl) (hb:fn.body=some c:=by rfl) (hn:args.length≤fn.ntmps:=by simp) (hown:args.all (fun x=> !x.owns)=true:=by simp) (hres:res.flat=true:=by simp):Pure Tryz.prog f args res:=zAA hf hname hb hn hown hres h
theorem cP{P:Program}{f:FuncId}{xs:List Operand}{args args0:List AV}{s:AState}{dst:Option Nat}{K:AState->Prop}{res:AV}(h:Pure P f args res)(h3:K (s.putO dst res))(h1:AV.flatL args=true:=by simp)(h2:res.owns=false:=by rfl):CallP P f xs args args0 s dst K:=callPure h h1 h2 h3
@[simp] def zz0:List AV:=[.int .i64 0,.int .i64 0,.str ([]:List UInt8),.osl ⟨1,24⟩ (([]:List zMY).map zMY.c),.osl ⟨1,9⟩ (([]:List (List UInt8)).map cS),.osl ⟨6,28⟩ (([]:List zMZ).map zMZ.c)]
@[simp] def zz1:List AV:=[.int .i64 0,.int .i64 0,.str ([]:List UInt8),.int .i64 0,.int .i64 0,.str ([]:List UInt8),.osl ⟨1,24⟩ (([]:List zMY).map zMY.c),.osl ⟨1,9⟩ (([]:List (List UInt8)).map cS),.osl ⟨6,28⟩ (([]:List zMZ).map zMZ.c),.osl ⟨1,24⟩ (([]:List zMY).map zMY.c),.osl ⟨1,24⟩ (([]:List zMY).map zMY.c),.osl ⟨1,24⟩ (([]:List zMY).map zMY.c),.osl ⟨1,9⟩ (([]:List (List UInt8)).map cS),.osl ⟨14,31⟩ (([]:List zMa).map zMa.c)]
@[simp] def zz2:List AV:=[.osl ⟨1,24⟩ (([]:List zMY).map zMY.c)]
@[simp] def zz3:List AV:=[.osl ⟨1,24⟩ (([]:List zMY).map zMY.c),.int .i64 0,.int .i64 0,.str ([]:List UInt8),.int .i64 0,.int .i64 0,.str ([]:List UInt8),.osl ⟨1,24⟩ (([]:List zMY).map zMY.c),.osl ⟨1,9⟩ (([]:List (List UInt8)).map cS),.osl ⟨6,28⟩ (([]:List zMZ).map zMZ.c),.osl ⟨1,24⟩ (([]:List zMY).map zMY.c),.osl ⟨1,24⟩ (([]:List zMY).map zMY.c),.osl ⟨1,24⟩ (([]:List zMY).map zMY.c),.osl ⟨1,9⟩ (([]:List (List UInt8)).map cS),.osl ⟨14,31⟩ (([]:List zMa).map zMa.c)]
@[simp] theorem ti0:Tryz.prog.info? 0=some Tryz.t0:=by rfl
@[simp] theorem ti1:Tryz.prog.info? 1=some Tryz.t1:=by rfl
@[simp] theorem ti2:Tryz.prog.info? 2=some Tryz.t2:=by rfl
@[simp] theorem ti3:Tryz.prog.info? 3=some Tryz.t3:=by rfl
@[simp] theorem ti4:Tryz.prog.info? 4=some Tryz.t4:=by rfl
@[simp] theorem ti5:Tryz.prog.info? 5=some Tryz.t5:=by rfl
@[simp] theorem ti6:Tryz.prog.info? 6=some Tryz.t6:=by rfl
@[simp] theorem ti7:Tryz.prog.info? 7=some Tryz.t7:=by rfl
@[simp] theorem ti8:Tryz.prog.info? 8=some Tryz.t8:=by rfl
@[simp] theorem ti9:Tryz.prog.info? 9=some Tryz.t9:=by rfl
@[simp] theorem ti22:Tryz.prog.info? 22=some Tryz.t22:=by rfl
@[simp] theorem ti23:Tryz.prog.info? 23=some Tryz.t23:=by rfl
@[simp] theorem ti24:Tryz.prog.info? 24=some Tryz.t24:=by rfl
@[simp] theorem ti25:Tryz.prog.info? 25=some Tryz.t25:=by rfl
@[simp] theorem ti26:Tryz.prog.info? 26=some Tryz.t26:=by rfl
@[simp] theorem ti27:Tryz.prog.info? 27=some Tryz.t27:=by rfl
@[simp] theorem ti28:Tryz.prog.info? 28=some Tryz.t28:=by rfl
@[simp] theorem ti29:Tryz.prog.info? 29=some Tryz.t29:=by rfl
@[simp] theorem ti30:Tryz.prog.info? 30=some Tryz.t30:=by rfl
@[simp] theorem ti31:Tryz.prog.info? 31=some Tryz.t31:=by rfl
@[simp] theorem ti32:Tryz.prog.info? 32=some Tryz.t32:=by rfl
@[simp] theorem ti33:Tryz.prog.info? 33=some Tryz.t33:=by rfl
@[simp] theorem ti35:Tryz.prog.info? 35=some Tryz.t35:=by rfl
@[simp] theorem ti37:Tryz.prog.info? 37=some Tryz.t37:=by rfl
@[simp] theorem ti40:Tryz.prog.info? 40=some Tryz.t40:=by rfl
@[simp] theorem ti41:Tryz.prog.info? 41=some Tryz.t41:=by rfl
@[simp] theorem ti42:Tryz.prog.info? 42=some Tryz.t42:=by rfl
@[simp] theorem ti44:Tryz.prog.info? 44=some Tryz.t44:=by rfl
@[simp] theorem ti46:Tryz.prog.info? 46=some Tryz.t46:=by rfl
@[simp] theorem ti48:Tryz.prog.info? 48=some Tryz.t48:=by rfl
@[simp] theorem ti49:Tryz.prog.info? 49=some Tryz.t49:=by rfl
@[simp] theorem ti51:Tryz.prog.info? 51=some Tryz.t51:=by rfl
@[simp] theorem ti52:Tryz.prog.info? 52=some Tryz.t52:=by rfl
@[simp] theorem ti53:Tryz.prog.info? 53=some Tryz.t53:=by rfl
@[simp] theorem ti56:Tryz.prog.info? 56=some Tryz.t56:=by rfl
@[simp] theorem ti58:Tryz.prog.info? 58=some Tryz.t58:=by rfl
@[simp] theorem ti60:Tryz.prog.info? 60=some Tryz.t60:=by rfl
@[simp] theorem ti61:Tryz.prog.info? 61=some Tryz.t61:=by rfl
@[simp] theorem ti64:Tryz.prog.info? 64=some Tryz.t64:=by rfl
@[simp] theorem ti65:Tryz.prog.info? 65=some Tryz.t65:=by rfl
@[simp] theorem ti67:Tryz.prog.info? 67=some Tryz.t67:=by rfl
@[simp] theorem ti73:Tryz.prog.info? 73=some Tryz.t73:=by rfl
@[simp] theorem ti74:Tryz.prog.info? 74=some Tryz.t74:=by rfl
@[simp] theorem ti79:Tryz.prog.info? 79=some Tryz.t79:=by rfl
@[simp] theorem ti80:Tryz.prog.info? 80=some Tryz.t80:=by rfl
@[simp] theorem ti84:Tryz.prog.info? 84=some Tryz.t84:=by rfl
@[simp] theorem ti91:Tryz.prog.info? 91=some Tryz.t91:=by rfl
@[simp] theorem ti93:Tryz.prog.info? 93=some Tryz.t93:=by rfl
@[simp] theorem ti95:Tryz.prog.info? 95=some Tryz.t95:=by rfl
@[simp] theorem ti96:Tryz.prog.info? 96=some Tryz.t96:=by rfl
@[simp] theorem ti97:Tryz.prog.info? 97=some Tryz.t97:=by rfl
@[simp] theorem ti98:Tryz.prog.info? 98=some Tryz.t98:=by rfl
@[simp] theorem ti99:Tryz.prog.info? 99=some Tryz.t99:=by rfl
@[simp] theorem ti100:Tryz.prog.info? 100=some Tryz.t100:=by rfl
@[simp] theorem ti101:Tryz.prog.info? 101=some Tryz.t101:=by rfl
@[simp] theorem ti102:Tryz.prog.info? 102=some Tryz.t102:=by rfl
@[simp] theorem ti103:Tryz.prog.info? 103=some Tryz.t103:=by rfl
@[simp] theorem ti104:Tryz.prog.info? 104=some Tryz.t104:=by rfl
@[simp] theorem ti105:Tryz.prog.info? 105=some Tryz.t105:=by rfl
@[simp] theorem ti107:Tryz.prog.info? 107=some Tryz.t107:=by rfl
@[simp] theorem ti108:Tryz.prog.info? 108=some Tryz.t108:=by rfl
@[simp] theorem ti109:Tryz.prog.info? 109=some Tryz.t109:=by rfl
@[simp] theorem ti110:Tryz.prog.info? 110=some Tryz.t110:=by rfl
@[simp] theorem ti111:Tryz.prog.info? 111=some Tryz.t111:=by rfl
@[simp] theorem ti112:Tryz.prog.info? 112=some Tryz.t112:=by rfl
@[simp] theorem ti114:Tryz.prog.info? 114=some Tryz.t114:=by rfl
@[simp] theorem ti115:Tryz.prog.info? 115=some Tryz.t115:=by rfl
@[simp] theorem ti116:Tryz.prog.info? 116=some Tryz.t116:=by rfl
@[simp] theorem ti117:Tryz.prog.info? 117=some Tryz.t117:=by rfl
@[simp] theorem ti118:Tryz.prog.info? 118=some Tryz.t118:=by rfl
@[simp] theorem ti119:Tryz.prog.info? 119=some Tryz.t119:=by rfl
@[simp] theorem ti120:Tryz.prog.info? 120=some Tryz.t120:=by rfl
@[simp] theorem ti121:Tryz.prog.info? 121=some Tryz.t121:=by rfl
@[simp] theorem ti123:Tryz.prog.info? 123=some Tryz.t123:=by rfl
@[simp] theorem ti125:Tryz.prog.info? 125=some Tryz.t125:=by rfl
@[simp] theorem ti131:Tryz.prog.info? 131=some Tryz.t131:=by rfl
@[simp] theorem ti132:Tryz.prog.info? 132=some Tryz.t132:=by rfl
@[simp] theorem ti134:Tryz.prog.info? 134=some Tryz.t134:=by rfl
@[simp] theorem ti135:Tryz.prog.info? 135=some Tryz.t135:=by rfl
@[simp] theorem ti136:Tryz.prog.info? 136=some Tryz.t136:=by rfl
@[simp] theorem ti142:Tryz.prog.info? 142=some Tryz.t142:=by rfl
@[simp] theorem ti143:Tryz.prog.info? 143=some Tryz.t143:=by rfl
@[simp] theorem ti144:Tryz.prog.info? 144=some Tryz.t144:=by rfl
@[simp] theorem ti145:Tryz.prog.info? 145=some Tryz.t145:=by rfl
@[simp] theorem ti147:Tryz.prog.info? 147=some Tryz.t147:=by rfl
@[simp] theorem ti154:Tryz.prog.info? 154=some Tryz.t154:=by rfl
@[simp] theorem ti155:Tryz.prog.info? 155=some Tryz.t155:=by rfl
@[simp] theorem ti244:Tryz.prog.info? 244=some Tryz.t244:=by rfl
@[simp] theorem ti246:Tryz.prog.info? 246=some Tryz.t246:=by rfl
attribute [simp] Tryz.t0 Tryz.t1 Tryz.t2 Tryz.t3 Tryz.t4 Tryz.t5 Tryz.t6 Tryz.t7 Tryz.t8 Tryz.t9 Tryz.t22 Tryz.t23 Tryz.t24 Tryz.t25 Tryz.t26 Tryz.t27 Tryz.t28 Tryz.t29 Tryz.t30 Tryz.t31 Tryz.t32 Tryz.t33 Tryz.t35 Tryz.t37 Tryz.t40 Tryz.t41 Tryz.t42 Tryz.t44 Tryz.t46 Tryz.t48 Tryz.t49 Tryz.t51 Tryz.t52 Tryz.t53 Tryz.t56 Tryz.t58 Tryz.t60 Tryz.t61 Tryz.t64 Tryz.t65 Tryz.t67 Tryz.t73 Tryz.t74 Tryz.t79 Tryz.t80 Tryz.t84 Tryz.t91 Tryz.t93 Tryz.t95 Tryz.t96 Tryz.t97 Tryz.t98 Tryz.t99 Tryz.t100 Tryz.t101 Tryz.t102 Tryz.t103 Tryz.t104 Tryz.t105 Tryz.t107 Tryz.t108 Tryz.t109 Tryz.t110 Tryz.t111 Tryz.t112 Tryz.t114 Tryz.t115 Tryz.t116 Tryz.t117 Tryz.t118 Tryz.t119 Tryz.t120 Tryz.t121 Tryz.t123 Tryz.t125 Tryz.t131 Tryz.t132 Tryz.t134 Tryz.t135 Tryz.t136 Tryz.t142 Tryz.t143 Tryz.t144 Tryz.t145 Tryz.t147 Tryz.t154 Tryz.t155 Tryz.t244 Tryz.t246
theorem mixed:Tryz.prog.follows .mixedOrders=true:=by kernel_rfl
theorem st{c:Code}{Q:Exit->AState->Prop}{s:AState}(h:AW Tryz.prog c Q s)(hc:notLoop c=true:=by rfl):AWp Tryz.prog c Q s:=AW.step mixed hc h
theorem cutA{x y:Code}{Q:Exit->AState->Prop}{s:AState}(n base:Nat)(live:List (Nat×AV))(blocks:List (List AV))(h2:AWp Tryz.prog y Q (mkS n base live blocks))(h1:AWp Tryz.prog x (cutK n base live blocks Q) s:=by exact st (by simp)):AWp Tryz.prog (.seq x y) Q s:=cut n base live blocks h1 h2
theorem lastA{x y:Code}{Q:Exit->AState->Prop}{s:AState}(n base:Nat)(live:List (Nat×AV))(blocks:List (List AV))(h2:AWp Tryz.prog y Q (mkS n base live blocks))(h1:AWp Tryz.prog x (cutK n base live blocks (seqK (AWp Tryz.prog y Q) Q)) s:=by exact st (by simp)):AWp Tryz.prog x (seqK (AWp Tryz.prog y Q) Q) s:=last n base live blocks h1 fun s' hs=>zAM h2 hs
end Go.Proofs.YtkdhppfdiagglaaGreatDoor
