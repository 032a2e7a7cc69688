/- For every input the law PatternBack returns true. Part 10 of 23. No condition. -/
import Derived.Test.YtbnahfdbjaohkaaGreatDoorPBi
import Derived.Test.YtbnahfdbjaohkaaGreatDoorProg
import Derived.KernelRfl
set_option linter.unusedVariables false
set_option linter.unnecessarySimpa false
set_option linter.unusedSimpArgs false
set_option maxRecDepth 100000
set_option maxHeartbeats 4000000
namespace Go.Proofs.YtbnahfdbjaohkaaGreatDoor
open Go Go.Abs
@[reducible,simp] def iI(n:Int):AV:=.int .i64 n
@[reducible,simp] def pT(b:Nat):AV:=.mptr b 0
theorem pB {f:FuncId} {fn:Func} {c:Code} {args:List AV} {res:AV} (hf:Tryz.prog.funcs[f]? =some fn) (h:AWp Tryz.prog c (Ret Tryz.prog fn fun r _=>r=res) (Go.Abs.start fn.ntmps 0 args [])) (hname:(fn.name== "runtime.NumGoroutine")=false:=by rfl) (hb:fn.body=some c:=by rfl) (hn:args.length≤fn.ntmps:=by simp) (hown:args.all (fun x=> !x.owns)=true:=by simp) (hres:res.flat=true:=by simp):Pure Tryz.prog f args res:=zAG hf hname hb hn hown hres h
theorem cP{P:Program}{f:FuncId}{xs:List Operand}{args args0:List AV}{s:AState}{dst:Option Nat}{K:AState->Prop}{res:AV}(h:Pure P f args res)(h3:K (s.putO dst res))(h1:AV.flatL args=true:=by simp)(h2:res.owns=false:=by rfl):CallP P f xs args args0 s dst K:=callPure h h1 h2 h3
@[simp] def zz0:List AV:=[.int .i64 0,.int .i64 0,.str ([]:List UInt8),.osl ⟨1,9⟩ (([]:List (List UInt8)).map cS),.osl ⟨5,33⟩ (([]:List zJv).map zJv.c)]
@[simp] def zz1:List AV:=[.int .i64 0,.str ([]:List UInt8),.int .i64 0,.int .i64 0]
@[simp] def zz2:List AV:=[.bool false,.bool false,.bool false]
@[simp] def zz3:List AV:=[.int .i64 0,.int .i64 0]
@[simp] theorem ti0:Tryz.prog.info? 0=some Tryz.t0:=by rfl
@[simp] theorem ti1:Tryz.prog.info? 1=some Tryz.t1:=by rfl
@[simp] theorem ti2:Tryz.prog.info? 2=some Tryz.t2:=by rfl
@[simp] theorem ti3:Tryz.prog.info? 3=some Tryz.t3:=by rfl
@[simp] theorem ti4:Tryz.prog.info? 4=some Tryz.t4:=by rfl
@[simp] theorem ti5:Tryz.prog.info? 5=some Tryz.t5:=by rfl
@[simp] theorem ti9:Tryz.prog.info? 9=some Tryz.t9:=by rfl
@[simp] theorem ti10:Tryz.prog.info? 10=some Tryz.t10:=by rfl
@[simp] theorem ti22:Tryz.prog.info? 22=some Tryz.t22:=by rfl
@[simp] theorem ti23:Tryz.prog.info? 23=some Tryz.t23:=by rfl
@[simp] theorem ti24:Tryz.prog.info? 24=some Tryz.t24:=by rfl
@[simp] theorem ti27:Tryz.prog.info? 27=some Tryz.t27:=by rfl
@[simp] theorem ti30:Tryz.prog.info? 30=some Tryz.t30:=by rfl
@[simp] theorem ti31:Tryz.prog.info? 31=some Tryz.t31:=by rfl
@[simp] theorem ti32:Tryz.prog.info? 32=some Tryz.t32:=by rfl
@[simp] theorem ti33:Tryz.prog.info? 33=some Tryz.t33:=by rfl
@[simp] theorem ti34:Tryz.prog.info? 34=some Tryz.t34:=by rfl
@[simp] theorem ti35:Tryz.prog.info? 35=some Tryz.t35:=by rfl
@[simp] theorem ti38:Tryz.prog.info? 38=some Tryz.t38:=by rfl
@[simp] theorem ti39:Tryz.prog.info? 39=some Tryz.t39:=by rfl
@[simp] theorem ti40:Tryz.prog.info? 40=some Tryz.t40:=by rfl
@[simp] theorem ti41:Tryz.prog.info? 41=some Tryz.t41:=by rfl
@[simp] theorem ti42:Tryz.prog.info? 42=some Tryz.t42:=by rfl
@[simp] theorem ti43:Tryz.prog.info? 43=some Tryz.t43:=by rfl
@[simp] theorem ti44:Tryz.prog.info? 44=some Tryz.t44:=by rfl
@[simp] theorem ti45:Tryz.prog.info? 45=some Tryz.t45:=by rfl
@[simp] theorem ti46:Tryz.prog.info? 46=some Tryz.t46:=by rfl
@[simp] theorem ti47:Tryz.prog.info? 47=some Tryz.t47:=by rfl
@[simp] theorem ti49:Tryz.prog.info? 49=some Tryz.t49:=by rfl
@[simp] theorem ti50:Tryz.prog.info? 50=some Tryz.t50:=by rfl
@[simp] theorem ti51:Tryz.prog.info? 51=some Tryz.t51:=by rfl
@[simp] theorem ti55:Tryz.prog.info? 55=some Tryz.t55:=by rfl
@[simp] theorem ti56:Tryz.prog.info? 56=some Tryz.t56:=by rfl
@[simp] theorem ti57:Tryz.prog.info? 57=some Tryz.t57:=by rfl
@[simp] theorem ti58:Tryz.prog.info? 58=some Tryz.t58:=by rfl
@[simp] theorem ti59:Tryz.prog.info? 59=some Tryz.t59:=by rfl
@[simp] theorem ti60:Tryz.prog.info? 60=some Tryz.t60:=by rfl
@[simp] theorem ti61:Tryz.prog.info? 61=some Tryz.t61:=by rfl
@[simp] theorem ti62:Tryz.prog.info? 62=some Tryz.t62:=by rfl
@[simp] theorem ti64:Tryz.prog.info? 64=some Tryz.t64:=by rfl
@[simp] theorem ti65:Tryz.prog.info? 65=some Tryz.t65:=by rfl
@[simp] theorem ti67:Tryz.prog.info? 67=some Tryz.t67:=by rfl
@[simp] theorem ti74:Tryz.prog.info? 74=some Tryz.t74:=by rfl
@[simp] theorem ti77:Tryz.prog.info? 77=some Tryz.t77:=by rfl
@[simp] theorem ti78:Tryz.prog.info? 78=some Tryz.t78:=by rfl
@[simp] theorem ti79:Tryz.prog.info? 79=some Tryz.t79:=by rfl
@[simp] theorem ti82:Tryz.prog.info? 82=some Tryz.t82:=by rfl
@[simp] theorem ti85:Tryz.prog.info? 85=some Tryz.t85:=by rfl
@[simp] theorem ti86:Tryz.prog.info? 86=some Tryz.t86:=by rfl
@[simp] theorem ti87:Tryz.prog.info? 87=some Tryz.t87:=by rfl
@[simp] theorem ti91:Tryz.prog.info? 91=some Tryz.t91:=by rfl
@[simp] theorem ti92:Tryz.prog.info? 92=some Tryz.t92:=by rfl
@[simp] theorem ti94:Tryz.prog.info? 94=some Tryz.t94:=by rfl
@[simp] theorem ti95:Tryz.prog.info? 95=some Tryz.t95:=by rfl
@[simp] theorem ti97:Tryz.prog.info? 97=some Tryz.t97:=by rfl
@[simp] theorem ti99:Tryz.prog.info? 99=some Tryz.t99:=by rfl
@[simp] theorem ti100:Tryz.prog.info? 100=some Tryz.t100:=by rfl
@[simp] theorem ti101:Tryz.prog.info? 101=some Tryz.t101:=by rfl
@[simp] theorem ti102:Tryz.prog.info? 102=some Tryz.t102:=by rfl
@[simp] theorem ti103:Tryz.prog.info? 103=some Tryz.t103:=by rfl
@[simp] theorem ti104:Tryz.prog.info? 104=some Tryz.t104:=by rfl
@[simp] theorem ti105:Tryz.prog.info? 105=some Tryz.t105:=by rfl
@[simp] theorem ti106:Tryz.prog.info? 106=some Tryz.t106:=by rfl
@[simp] theorem ti107:Tryz.prog.info? 107=some Tryz.t107:=by rfl
@[simp] theorem ti108:Tryz.prog.info? 108=some Tryz.t108:=by rfl
@[simp] theorem ti109:Tryz.prog.info? 109=some Tryz.t109:=by rfl
@[simp] theorem ti110:Tryz.prog.info? 110=some Tryz.t110:=by rfl
@[simp] theorem ti111:Tryz.prog.info? 111=some Tryz.t111:=by rfl
@[simp] theorem ti112:Tryz.prog.info? 112=some Tryz.t112:=by rfl
@[simp] theorem ti114:Tryz.prog.info? 114=some Tryz.t114:=by rfl
@[simp] theorem ti115:Tryz.prog.info? 115=some Tryz.t115:=by rfl
@[simp] theorem ti116:Tryz.prog.info? 116=some Tryz.t116:=by rfl
@[simp] theorem ti117:Tryz.prog.info? 117=some Tryz.t117:=by rfl
@[simp] theorem ti118:Tryz.prog.info? 118=some Tryz.t118:=by rfl
@[simp] theorem ti119:Tryz.prog.info? 119=some Tryz.t119:=by rfl
@[simp] theorem ti120:Tryz.prog.info? 120=some Tryz.t120:=by rfl
@[simp] theorem ti121:Tryz.prog.info? 121=some Tryz.t121:=by rfl
@[simp] theorem ti122:Tryz.prog.info? 122=some Tryz.t122:=by rfl
@[simp] theorem ti123:Tryz.prog.info? 123=some Tryz.t123:=by rfl
@[simp] theorem ti124:Tryz.prog.info? 124=some Tryz.t124:=by rfl
@[simp] theorem ti125:Tryz.prog.info? 125=some Tryz.t125:=by rfl
@[simp] theorem ti126:Tryz.prog.info? 126=some Tryz.t126:=by rfl
@[simp] theorem ti127:Tryz.prog.info? 127=some Tryz.t127:=by rfl
@[simp] theorem ti130:Tryz.prog.info? 130=some Tryz.t130:=by rfl
@[simp] theorem ti138:Tryz.prog.info? 138=some Tryz.t138:=by rfl
@[simp] theorem ti141:Tryz.prog.info? 141=some Tryz.t141:=by rfl
@[simp] theorem ti146:Tryz.prog.info? 146=some Tryz.t146:=by rfl
@[simp] theorem ti178:Tryz.prog.info? 178=some Tryz.t178:=by rfl
@[simp] theorem ti201:Tryz.prog.info? 201=some Tryz.t201:=by rfl
@[simp] theorem ti205:Tryz.prog.info? 205=some Tryz.t205:=by rfl
@[simp] theorem ti206:Tryz.prog.info? 206=some Tryz.t206:=by rfl
@[simp] theorem ti233:Tryz.prog.info? 233=some Tryz.t233:=by rfl
@[simp] theorem ti242:Tryz.prog.info? 242=some Tryz.t242:=by rfl
@[simp] theorem ti244:Tryz.prog.info? 244=some Tryz.t244:=by rfl
attribute [simp] Tryz.t0 Tryz.t1 Tryz.t2 Tryz.t3 Tryz.t4 Tryz.t5 Tryz.t9 Tryz.t10 Tryz.t22 Tryz.t23 Tryz.t24 Tryz.t27 Tryz.t30 Tryz.t31 Tryz.t32 Tryz.t33 Tryz.t34 Tryz.t35 Tryz.t38 Tryz.t39 Tryz.t40 Tryz.t41 Tryz.t42 Tryz.t43 Tryz.t44 Tryz.t45 Tryz.t46 Tryz.t47 Tryz.t49 Tryz.t50 Tryz.t51 Tryz.t55 Tryz.t56 Tryz.t57 Tryz.t58 Tryz.t59 Tryz.t60 Tryz.t61 Tryz.t62 Tryz.t64 Tryz.t65 Tryz.t67 Tryz.t74 Tryz.t77 Tryz.t78 Tryz.t79 Tryz.t82 Tryz.t85 Tryz.t86 Tryz.t87 Tryz.t91 Tryz.t92 Tryz.t94 Tryz.t95 Tryz.t97 Tryz.t99 Tryz.t100 Tryz.t101 Tryz.t102 Tryz.t103 Tryz.t104 Tryz.t105 Tryz.t106 Tryz.t107 Tryz.t108 Tryz.t109 Tryz.t110 Tryz.t111 Tryz.t112 Tryz.t114 Tryz.t115 Tryz.t116 Tryz.t117 Tryz.t118 Tryz.t119 Tryz.t120 Tryz.t121 Tryz.t122 Tryz.t123 Tryz.t124 Tryz.t125 Tryz.t126 Tryz.t127 Tryz.t130 Tryz.t138 Tryz.t141 Tryz.t146 Tryz.t178 Tryz.t201 Tryz.t205 Tryz.t206 Tryz.t233 Tryz.t242 Tryz.t244
theorem mixed:Tryz.prog.follows .mixedOrders=true:=by kernel_rfl
theorem st{c:Code}{Q:Exit->AState->Prop}{s:AState}(h:AW Tryz.prog c Q s)(hc:notLoop c=true:=by rfl):AWp Tryz.prog c Q s:=AW.step mixed hc h
theorem cutA{x y:Code}{Q:Exit->AState->Prop}{s:AState}(n base:Nat)(live:List (Nat×AV))(blocks:List (List AV))(h2:AWp Tryz.prog y Q (mkS n base live blocks))(h1:AWp Tryz.prog x (cutK n base live blocks Q) s:=by exact st (by simp)):AWp Tryz.prog (.seq x y) Q s:=cut n base live blocks h1 h2
theorem zG1{x y:Code}{Q:Exit->AState->Prop}{s:AState}(n base:Nat)(live:List (Nat×AV))(blocks:List (List AV))(h2:AWp Tryz.prog y Q (mkS n base live blocks))(h1:AWp Tryz.prog x (cutK n base live blocks (seqK (AWp Tryz.prog y Q) Q)) s:=by exact st (by simp)):AWp Tryz.prog x (seqK (AWp Tryz.prog y Q) Q) s:=last n base live blocks h1 fun s' hs=>zCh h2 hs
end Go.Proofs.YtbnahfdbjaohkaaGreatDoor
