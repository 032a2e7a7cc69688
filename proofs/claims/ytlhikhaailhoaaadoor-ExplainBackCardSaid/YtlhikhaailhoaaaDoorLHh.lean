/- For every input the law ExplainBack returns true. Part 8 of 14. No condition. -/
import Derived.Test.YtlhikhaailhoaaaDoorLHg
import Derived.Test.YtlhikhaailhoaaaDoorProg
import Derived.KernelRfl
set_option linter.unusedVariables false
set_option linter.unusedSimpArgs false
set_option maxRecDepth 100000
set_option maxHeartbeats 1000000
namespace Go.Proofs.YtlhikhaailhoaaaDoor
open Go Go.Abs
@[simp] theorem ti0 : Tryd.prog.info? 0 = some Tryd.t0 := by rfl
@[simp] theorem ti1 : Tryd.prog.info? 1 = some Tryd.t1 := by rfl
@[simp] theorem ti2 : Tryd.prog.info? 2 = some Tryd.t2 := by rfl
@[simp] theorem ti3 : Tryd.prog.info? 3 = some Tryd.t3 := by rfl
@[simp] theorem ti4 : Tryd.prog.info? 4 = some Tryd.t4 := by rfl
@[simp] theorem ti5 : Tryd.prog.info? 5 = some Tryd.t5 := by rfl
@[simp] theorem ti9 : Tryd.prog.info? 9 = some Tryd.t9 := by rfl
@[simp] theorem ti10 : Tryd.prog.info? 10 = some Tryd.t10 := by rfl
@[simp] theorem ti12 : Tryd.prog.info? 12 = some Tryd.t12 := by rfl
@[simp] theorem ti16 : Tryd.prog.info? 16 = some Tryd.t16 := by rfl
@[simp] theorem ti21 : Tryd.prog.info? 21 = some Tryd.t21 := by rfl
@[simp] theorem ti23 : Tryd.prog.info? 23 = some Tryd.t23 := by rfl
@[simp] theorem ti24 : Tryd.prog.info? 24 = some Tryd.t24 := by rfl
@[simp] theorem ti25 : Tryd.prog.info? 25 = some Tryd.t25 := by rfl
@[simp] theorem ti26 : Tryd.prog.info? 26 = some Tryd.t26 := by rfl
@[simp] theorem ti27 : Tryd.prog.info? 27 = some Tryd.t27 := by rfl
@[simp] theorem ti31 : Tryd.prog.info? 31 = some Tryd.t31 := by rfl
@[simp] theorem ti32 : Tryd.prog.info? 32 = some Tryd.t32 := by rfl
@[simp] theorem ti35 : Tryd.prog.info? 35 = some Tryd.t35 := by rfl
@[simp] theorem ti40 : Tryd.prog.info? 40 = some Tryd.t40 := by rfl
@[simp] theorem ti44 : Tryd.prog.info? 44 = some Tryd.t44 := by rfl
@[simp] theorem ti45 : Tryd.prog.info? 45 = some Tryd.t45 := by rfl
@[simp] theorem ti49 : Tryd.prog.info? 49 = some Tryd.t49 := by rfl
@[simp] theorem ti58 : Tryd.prog.info? 58 = some Tryd.t58 := by rfl
@[simp] theorem ti59 : Tryd.prog.info? 59 = some Tryd.t59 := by rfl
@[simp] theorem ti60 : Tryd.prog.info? 60 = some Tryd.t60 := by rfl
@[simp] theorem ti61 : Tryd.prog.info? 61 = some Tryd.t61 := by rfl
@[simp] theorem ti62 : Tryd.prog.info? 62 = some Tryd.t62 := by rfl
@[simp] theorem ti63 : Tryd.prog.info? 63 = some Tryd.t63 := by rfl
@[simp] theorem ti65 : Tryd.prog.info? 65 = some Tryd.t65 := by rfl
@[simp] theorem ti66 : Tryd.prog.info? 66 = some Tryd.t66 := by rfl
@[simp] theorem ti73 : Tryd.prog.info? 73 = some Tryd.t73 := by rfl
@[simp] theorem ti74 : Tryd.prog.info? 74 = some Tryd.t74 := by rfl
@[simp] theorem ti77 : Tryd.prog.info? 77 = some Tryd.t77 := by rfl
@[simp] theorem ti81 : Tryd.prog.info? 81 = some Tryd.t81 := by rfl
@[simp] theorem ti88 : Tryd.prog.info? 88 = some Tryd.t88 := by rfl
@[simp] theorem ti97 : Tryd.prog.info? 97 = some Tryd.t97 := by rfl
@[simp] theorem ti98 : Tryd.prog.info? 98 = some Tryd.t98 := by rfl
@[simp] theorem ti99 : Tryd.prog.info? 99 = some Tryd.t99 := by rfl
@[simp] theorem ti100 : Tryd.prog.info? 100 = some Tryd.t100 := by rfl
@[simp] theorem ti101 : Tryd.prog.info? 101 = some Tryd.t101 := by rfl
@[simp] theorem ti102 : Tryd.prog.info? 102 = some Tryd.t102 := by rfl
@[simp] theorem ti103 : Tryd.prog.info? 103 = some Tryd.t103 := by rfl
@[simp] theorem ti104 : Tryd.prog.info? 104 = some Tryd.t104 := by rfl
@[simp] theorem ti105 : Tryd.prog.info? 105 = some Tryd.t105 := by rfl
attribute [simp] Tryd.t0 Tryd.t1 Tryd.t2 Tryd.t3 Tryd.t4 Tryd.t5 Tryd.t9 Tryd.t10 Tryd.t12 Tryd.t16 Tryd.t21 Tryd.t23 Tryd.t24 Tryd.t25 Tryd.t26 Tryd.t27 Tryd.t31 Tryd.t32 Tryd.t35 Tryd.t40 Tryd.t44 Tryd.t45 Tryd.t49 Tryd.t58 Tryd.t59 Tryd.t60 Tryd.t61 Tryd.t62 Tryd.t63 Tryd.t65 Tryd.t66 Tryd.t73 Tryd.t74 Tryd.t77 Tryd.t81 Tryd.t88 Tryd.t97 Tryd.t98 Tryd.t99 Tryd.t100 Tryd.t101 Tryd.t102 Tryd.t103 Tryd.t104 Tryd.t105
@[simp] theorem eqg24 : Tryd.prog.eqGuardType Tryd.prog.depth 24 = false := by kernel_rfl
@[simp] theorem sih24 : Tryd.prog.stoodInHeld 24 = false := by kernel_rfl
@[simp] theorem eqg27 : Tryd.prog.eqGuardType Tryd.prog.depth 27 = false := by kernel_rfl
@[simp] theorem sih27 : Tryd.prog.stoodInHeld 27 = false := by kernel_rfl
@[simp] theorem cof3 : Tryd.prog.cellsOf 3 = 1 := by kernel_rfl
@[simp] theorem cof4 : Tryd.prog.cellsOf 4 = 1 := by kernel_rfl
@[simp] theorem cof9 : Tryd.prog.cellsOf 9 = 1 := by kernel_rfl
@[simp] theorem cof24 : Tryd.prog.cellsOf 24 = 2 := by kernel_rfl
@[simp] theorem cof25 : Tryd.prog.cellsOf 25 = 1 := by kernel_rfl
@[simp] theorem cof27 : Tryd.prog.cellsOf 27 = 6 := by kernel_rfl
theorem mixed : Tryd.prog.follows .mixedOrders = true := by kernel_rfl
theorem st {c : Code} {Q : Exit → AState → Prop} {s : AState} (h : AW Tryd.prog c Q s) (hc : notLoop c = true := by rfl) : AWp Tryd.prog c Q s := AW.step mixed hc h
end Go.Proofs.YtlhikhaailhoaaaDoor
