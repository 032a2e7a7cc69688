/- CanonSteps holds: for every input the law returns true. No condition. Part 18 of 19. No condition. -/
import Derived.Test.YtkdhppfdiagglaaGreatDoorCSq
set_option linter.unusedVariables false
set_option linter.unnecessarySimpa false
set_option linter.unusedSimpArgs false
set_option maxRecDepth 100000
set_option maxHeartbeats 4000000
namespace Go.Proofs.YtkdhppfdiagglaaGreatDoor
open Go Go.Abs
theorem cf1:Go.OpenClaim.wfByText (Go.OpenSpec.ofChange Rows.canonStepsSpec) Rows.canonStepsRow=true:=by kernel_rfl
theorem cf2:Tryz.prog.mainIs=some (true, "b983b4427d8b5f7c5388d4c6912e5e4cadf6911e3e01daa7143a7ba558bc3fd2".toList):=by kernel_rfl
theorem cf3:Tryz.prog.funcNamed "pilaster/pilasterlaw26.CanonSteps" =some 3:=by kernel_rfl
theorem cf4:true=Tryz.prog.looks []:=by kernel_rfl
theorem cf5:([33,33].all fun u=> !Tryz.prog.wantsStandIn u)=true:=by kernel_rfl
theorem cf6:false=Rows.canonStepsRow.goesBy Tryz.prog:=by kernel_rfl
end Go.Proofs.YtkdhppfdiagglaaGreatDoor
