/- For every input the law KindCurries returns true. Part 4 of 8. No condition. -/
import Derived.Test.YtcdjdpoahngkjaaKGc
import Derived.Test.YtcdjdpoahngkjaaProg
import Derived.KernelRfl
set_option linter.unusedVariables false
set_option linter.unusedSimpArgs false
set_option maxRecDepth 100000
set_option maxHeartbeats 1000000
namespace Go.Proofs.Ytcdjdpoahngkjaa
open Go Go.Abs
@[simp] theorem ti0 : Try.prog.info? 0 = some Try.t0 := by rfl
@[simp] theorem ti1 : Try.prog.info? 1 = some Try.t1 := by rfl
@[simp] theorem ti2 : Try.prog.info? 2 = some Try.t2 := by rfl
@[simp] theorem ti3 : Try.prog.info? 3 = some Try.t3 := by rfl
@[simp] theorem ti4 : Try.prog.info? 4 = some Try.t4 := by rfl
@[simp] theorem ti5 : Try.prog.info? 5 = some Try.t5 := by rfl
@[simp] theorem ti9 : Try.prog.info? 9 = some Try.t9 := by rfl
@[simp] theorem ti12 : Try.prog.info? 12 = some Try.t12 := by rfl
@[simp] theorem ti21 : Try.prog.info? 21 = some Try.t21 := by rfl
@[simp] theorem ti22 : Try.prog.info? 22 = some Try.t22 := by rfl
@[simp] theorem ti23 : Try.prog.info? 23 = some Try.t23 := by rfl
@[simp] theorem ti24 : Try.prog.info? 24 = some Try.t24 := by rfl
@[simp] theorem ti26 : Try.prog.info? 26 = some Try.t26 := by rfl
@[simp] theorem ti27 : Try.prog.info? 27 = some Try.t27 := by rfl
@[simp] theorem ti30 : Try.prog.info? 30 = some Try.t30 := by rfl
@[simp] theorem ti32 : Try.prog.info? 32 = some Try.t32 := by rfl
@[simp] theorem ti40 : Try.prog.info? 40 = some Try.t40 := by rfl
@[simp] theorem ti41 : Try.prog.info? 41 = some Try.t41 := by rfl
@[simp] theorem ti42 : Try.prog.info? 42 = some Try.t42 := by rfl
@[simp] theorem ti45 : Try.prog.info? 45 = some Try.t45 := by rfl
@[simp] theorem ti54 : Try.prog.info? 54 = some Try.t54 := by rfl
@[simp] theorem ti59 : Try.prog.info? 59 = some Try.t59 := by rfl
@[simp] theorem ti60 : Try.prog.info? 60 = some Try.t60 := by rfl
@[simp] theorem ti61 : Try.prog.info? 61 = some Try.t61 := by rfl
@[simp] theorem ti62 : Try.prog.info? 62 = some Try.t62 := by rfl
@[simp] theorem ti71 : Try.prog.info? 71 = some Try.t71 := by rfl
@[simp] theorem ti73 : Try.prog.info? 73 = some Try.t73 := by rfl
@[simp] theorem ti74 : Try.prog.info? 74 = some Try.t74 := by rfl
@[simp] theorem ti78 : Try.prog.info? 78 = some Try.t78 := by rfl
@[simp] theorem ti82 : Try.prog.info? 82 = some Try.t82 := by rfl
@[simp] theorem ti90 : Try.prog.info? 90 = some Try.t90 := by rfl
@[simp] theorem ti91 : Try.prog.info? 91 = some Try.t91 := by rfl
@[simp] theorem ti92 : Try.prog.info? 92 = some Try.t92 := by rfl
@[simp] theorem ti93 : Try.prog.info? 93 = some Try.t93 := by rfl
@[simp] theorem ti94 : Try.prog.info? 94 = some Try.t94 := by rfl
@[simp] theorem ti95 : Try.prog.info? 95 = some Try.t95 := by rfl
@[simp] theorem ti96 : Try.prog.info? 96 = some Try.t96 := by rfl
@[simp] theorem ti97 : Try.prog.info? 97 = some Try.t97 := by rfl
attribute [simp] Try.t0 Try.t1 Try.t2 Try.t3 Try.t4 Try.t5 Try.t9 Try.t12 Try.t21 Try.t22 Try.t23 Try.t24 Try.t26 Try.t27 Try.t30 Try.t32 Try.t40 Try.t41 Try.t42 Try.t45 Try.t54 Try.t59 Try.t60 Try.t61 Try.t62 Try.t71 Try.t73 Try.t74 Try.t78 Try.t82 Try.t90 Try.t91 Try.t92 Try.t93 Try.t94 Try.t95 Try.t96 Try.t97
theorem mixed : Try.prog.follows .mixedOrders = true := by kernel_rfl
theorem st {c : Code} {Q : Exit → AState → Prop} {s : AState} (h : AW Try.prog c Q s) (hc : notLoop c = true := by rfl) : AWp Try.prog c Q s := AW.step mixed hc h
end Go.Proofs.Ytcdjdpoahngkjaa
