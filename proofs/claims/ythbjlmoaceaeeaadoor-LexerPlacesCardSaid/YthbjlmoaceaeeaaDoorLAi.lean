/- For every input the law LexerPlaces returns true. Part 9 of 18. No condition. -/
import Derived.Test.YthbjlmoaceaeeaaDoorLAh
import Derived.Test.YthbjlmoaceaeeaaDoorProg
import Derived.KernelRfl
set_option linter.unusedVariables false
set_option linter.unusedSimpArgs false
set_option maxRecDepth 100000
set_option maxHeartbeats 1000000
namespace Go.Proofs.YthbjlmoaceaeeaaDoor
open Go Go.Abs
@[simp] theorem ti0 : Tryd.prog.info? 0 = some Tryd.t0 := by rfl
@[simp] theorem ti1 : Tryd.prog.info? 1 = some Tryd.t1 := by rfl
@[simp] theorem ti2 : Tryd.prog.info? 2 = some Tryd.t2 := by rfl
@[simp] theorem ti3 : Tryd.prog.info? 3 = some Tryd.t3 := by rfl
@[simp] theorem ti4 : Tryd.prog.info? 4 = some Tryd.t4 := by rfl
@[simp] theorem ti5 : Tryd.prog.info? 5 = some Tryd.t5 := by rfl
@[simp] theorem ti9 : Tryd.prog.info? 9 = some Tryd.t9 := by rfl
@[simp] theorem ti10 : Tryd.prog.info? 10 = some Tryd.t10 := by rfl
@[simp] theorem ti12 : Tryd.prog.info? 12 = some Tryd.t12 := by rfl
@[simp] theorem ti21 : Tryd.prog.info? 21 = some Tryd.t21 := by rfl
@[simp] theorem ti23 : Tryd.prog.info? 23 = some Tryd.t23 := by rfl
@[simp] theorem ti24 : Tryd.prog.info? 24 = some Tryd.t24 := by rfl
@[simp] theorem ti25 : Tryd.prog.info? 25 = some Tryd.t25 := by rfl
@[simp] theorem ti26 : Tryd.prog.info? 26 = some Tryd.t26 := by rfl
@[simp] theorem ti29 : Tryd.prog.info? 29 = some Tryd.t29 := by rfl
@[simp] theorem ti32 : Tryd.prog.info? 32 = some Tryd.t32 := by rfl
@[simp] theorem ti33 : Tryd.prog.info? 33 = some Tryd.t33 := by rfl
@[simp] theorem ti34 : Tryd.prog.info? 34 = some Tryd.t34 := by rfl
@[simp] theorem ti39 : Tryd.prog.info? 39 = some Tryd.t39 := by rfl
@[simp] theorem ti40 : Tryd.prog.info? 40 = some Tryd.t40 := by rfl
@[simp] theorem ti41 : Tryd.prog.info? 41 = some Tryd.t41 := by rfl
@[simp] theorem ti42 : Tryd.prog.info? 42 = some Tryd.t42 := by rfl
@[simp] theorem ti43 : Tryd.prog.info? 43 = some Tryd.t43 := by rfl
@[simp] theorem ti44 : Tryd.prog.info? 44 = some Tryd.t44 := by rfl
@[simp] theorem ti45 : Tryd.prog.info? 45 = some Tryd.t45 := by rfl
@[simp] theorem ti46 : Tryd.prog.info? 46 = some Tryd.t46 := by rfl
@[simp] theorem ti47 : Tryd.prog.info? 47 = some Tryd.t47 := by rfl
@[simp] theorem ti48 : Tryd.prog.info? 48 = some Tryd.t48 := by rfl
@[simp] theorem ti49 : Tryd.prog.info? 49 = some Tryd.t49 := by rfl
@[simp] theorem ti50 : Tryd.prog.info? 50 = some Tryd.t50 := by rfl
@[simp] theorem ti51 : Tryd.prog.info? 51 = some Tryd.t51 := by rfl
@[simp] theorem ti52 : Tryd.prog.info? 52 = some Tryd.t52 := by rfl
@[simp] theorem ti55 : Tryd.prog.info? 55 = some Tryd.t55 := by rfl
@[simp] theorem ti56 : Tryd.prog.info? 56 = some Tryd.t56 := by rfl
@[simp] theorem ti58 : Tryd.prog.info? 58 = some Tryd.t58 := by rfl
@[simp] theorem ti59 : Tryd.prog.info? 59 = some Tryd.t59 := by rfl
@[simp] theorem ti60 : Tryd.prog.info? 60 = some Tryd.t60 := by rfl
@[simp] theorem ti61 : Tryd.prog.info? 61 = some Tryd.t61 := by rfl
@[simp] theorem ti62 : Tryd.prog.info? 62 = some Tryd.t62 := by rfl
@[simp] theorem ti68 : Tryd.prog.info? 68 = some Tryd.t68 := by rfl
@[simp] theorem ti72 : Tryd.prog.info? 72 = some Tryd.t72 := by rfl
@[simp] theorem ti80 : Tryd.prog.info? 80 = some Tryd.t80 := by rfl
@[simp] theorem ti88 : Tryd.prog.info? 88 = some Tryd.t88 := by rfl
@[simp] theorem ti89 : Tryd.prog.info? 89 = some Tryd.t89 := by rfl
@[simp] theorem ti90 : Tryd.prog.info? 90 = some Tryd.t90 := by rfl
@[simp] theorem ti91 : Tryd.prog.info? 91 = some Tryd.t91 := by rfl
@[simp] theorem ti92 : Tryd.prog.info? 92 = some Tryd.t92 := by rfl
@[simp] theorem ti93 : Tryd.prog.info? 93 = some Tryd.t93 := by rfl
@[simp] theorem ti94 : Tryd.prog.info? 94 = some Tryd.t94 := by rfl
attribute [simp] Tryd.t0 Tryd.t1 Tryd.t2 Tryd.t3 Tryd.t4 Tryd.t5 Tryd.t9 Tryd.t10 Tryd.t12 Tryd.t21 Tryd.t23 Tryd.t24 Tryd.t25 Tryd.t26 Tryd.t29 Tryd.t32 Tryd.t33 Tryd.t34 Tryd.t39 Tryd.t40 Tryd.t41 Tryd.t42 Tryd.t43 Tryd.t44 Tryd.t45 Tryd.t46 Tryd.t47 Tryd.t48 Tryd.t49 Tryd.t50 Tryd.t51 Tryd.t52 Tryd.t55 Tryd.t56 Tryd.t58 Tryd.t59 Tryd.t60 Tryd.t61 Tryd.t62 Tryd.t68 Tryd.t72 Tryd.t80 Tryd.t88 Tryd.t89 Tryd.t90 Tryd.t91 Tryd.t92 Tryd.t93 Tryd.t94
@[simp] theorem eqg25 : Tryd.prog.eqGuardType Tryd.prog.depth 25 = false := by kernel_rfl
@[simp] theorem sih25 : Tryd.prog.stoodInHeld 25 = false := by kernel_rfl
@[simp] theorem eqg34 : Tryd.prog.eqGuardType Tryd.prog.depth 34 = false := by kernel_rfl
@[simp] theorem sih34 : Tryd.prog.stoodInHeld 34 = false := by kernel_rfl
@[simp] theorem cof3 : Tryd.prog.cellsOf 3 = 1 := by kernel_rfl
@[simp] theorem cof9 : Tryd.prog.cellsOf 9 = 1 := by kernel_rfl
@[simp] theorem cof25 : Tryd.prog.cellsOf 25 = 2 := by kernel_rfl
@[simp] theorem cof34 : Tryd.prog.cellsOf 34 = 4 := by kernel_rfl
theorem mixed : Tryd.prog.follows .mixedOrders = true := by kernel_rfl
theorem st {c : Code} {Q : Exit → AState → Prop} {s : AState} (h : AW Tryd.prog c Q s) (hc : notLoop c = true := by rfl) : AWp Tryd.prog c Q s := AW.step mixed hc h
end Go.Proofs.YthbjlmoaceaeeaaDoor
