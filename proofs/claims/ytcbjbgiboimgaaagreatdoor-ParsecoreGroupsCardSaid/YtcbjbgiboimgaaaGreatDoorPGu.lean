/- For every input the law ParsecoreGroups returns true. Part 21 of 22. No condition. -/
import Derived.Test.YtcbjbgiboimgaaaGreatDoorPGt
set_option linter.unusedVariables false
set_option linter.unnecessarySimpa false
set_option linter.unusedSimpArgs false
set_option maxRecDepth 100000
set_option maxHeartbeats 4000000
namespace Go.Proofs.YtcbjbgiboimgaaaGreatDoor
open Go Go.Abs
theorem cf1:Go.OpenClaim.wfByText (Go.OpenSpec.ofChange Rows.parsecoreGroupsSpec) Rows.parsecoreGroupsRow=true:=by kernel_rfl
theorem cf2:Tryz.prog.mainIs=some (true, "a1a1da11014aad187e2b6fdb28a95ddcc357525fa753d89abb281ead00064632".toList):=by kernel_rfl
theorem cf3:Tryz.prog.funcNamed "pilaster/pilasterlaw04.ParsecoreGroups" =some 3:=by kernel_rfl
theorem cf4:true=Tryz.prog.looks []:=by kernel_rfl
theorem cf5:([5,5,9,9,9].all fun u=> !Tryz.prog.wantsStandIn u)=true:=by kernel_rfl
theorem cf6:false=Rows.parsecoreGroupsRow.goesBy Tryz.prog:=by kernel_rfl
end Go.Proofs.YtcbjbgiboimgaaaGreatDoor
