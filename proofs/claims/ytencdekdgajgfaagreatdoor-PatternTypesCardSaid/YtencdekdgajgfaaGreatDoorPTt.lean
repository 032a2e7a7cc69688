/- For every input the law PatternTypes returns true. Part 20 of 21. No condition. -/
import Derived.Test.YtencdekdgajgfaaGreatDoorPTs
set_option linter.unusedVariables false
set_option linter.unnecessarySimpa false
set_option linter.unusedSimpArgs false
set_option maxRecDepth 100000
set_option maxHeartbeats 1000000
namespace Go.Proofs.YtencdekdgajgfaaGreatDoor
open Go Go.Abs
theorem cf1:Go.OpenClaim.wfByText (Go.OpenSpec.ofChange Rows.patternTypesSpec) Rows.patternTypesRow=true:=by kernel_rfl
theorem cf2:Tryz.prog.mainIs=some (true, "361b0a8ed1a2c245488225255cdb83136aff443747e6d265f594981ef008961d".toList):=by kernel_rfl
theorem cf3:Tryz.prog.funcNamed "pilaster/pilasterlaw20.PatternTypes" =some 3:=by kernel_rfl
theorem cf4:true=Tryz.prog.looks []:=by kernel_rfl
theorem cf5:([24,31].all fun u=> !Tryz.prog.wantsStandIn u)=true:=by kernel_rfl
theorem cf6:false=Rows.patternTypesRow.goesBy Tryz.prog:=by kernel_rfl
end Go.Proofs.YtencdekdgajgfaaGreatDoor
