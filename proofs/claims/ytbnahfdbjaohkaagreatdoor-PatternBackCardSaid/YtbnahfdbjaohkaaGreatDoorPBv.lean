/- For every input the law PatternBack returns true. Part 22 of 23. No condition. -/
import Derived.Test.YtbnahfdbjaohkaaGreatDoorPBu
set_option linter.unusedVariables false
set_option linter.unnecessarySimpa false
set_option linter.unusedSimpArgs false
set_option maxRecDepth 100000
set_option maxHeartbeats 4000000
namespace Go.Proofs.YtbnahfdbjaohkaaGreatDoor
open Go Go.Abs
theorem cf1:Go.OpenClaim.wfByText (Go.OpenSpec.ofChange Rows.patternBackSpec) Rows.patternBackRow=true:=by kernel_rfl
theorem cf2:Tryz.prog.mainIs=some (true, "de7421725644ab2fc1f94015f805800284353ab785277e57b824cd0b6ae4dc8b".toList):=by kernel_rfl
theorem cf3:Tryz.prog.funcNamed "pilaster/pilasterlaw20.PatternBack" =some 3:=by kernel_rfl
theorem cf4:true=Tryz.prog.looks []:=by kernel_rfl
theorem cf5:([24].all fun u=> !Tryz.prog.wantsStandIn u)=true:=by kernel_rfl
theorem cf6:false=Rows.patternBackRow.goesBy Tryz.prog:=by kernel_rfl
end Go.Proofs.YtbnahfdbjaohkaaGreatDoor
