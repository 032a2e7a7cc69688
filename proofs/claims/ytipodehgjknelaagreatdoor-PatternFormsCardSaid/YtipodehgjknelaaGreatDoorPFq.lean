/- PatternForms: for every input the law returns true. Part 17 of 18. No condition. -/
import Derived.Test.YtipodehgjknelaaGreatDoorPFp
set_option linter.unusedVariables false
set_option linter.unnecessarySimpa false
set_option linter.unusedSimpArgs false
set_option maxRecDepth 100000
set_option maxHeartbeats 1000000
namespace Go.Proofs.YtipodehgjknelaaGreatDoor
open Go Go.Abs
theorem cf1 : Go.OpenClaim.wfByText (Go.OpenSpec.ofChange Rows.patternFormsSpec) Rows.patternFormsRow = true := by kernel_rfl
theorem cf2 : Tryz.prog.mainIs = some (true, "b668642a0580b1f8c4ce3696fe52ece14faba54d1795800152585148c8a1b767".toList) := by kernel_rfl
theorem cf3 : Tryz.prog.funcNamed "pilaster/pilasterlaw20.PatternForms" = some 6 := by kernel_rfl
theorem cf4 : true = Tryz.prog.looks [] := by kernel_rfl
theorem cf5 : ([42, 42].all fun u => !Tryz.prog.wantsStandIn u) = true := by kernel_rfl
theorem cf6 : false = Rows.patternFormsRow.goesBy Tryz.prog := by kernel_rfl
end Go.Proofs.YtipodehgjknelaaGreatDoor
