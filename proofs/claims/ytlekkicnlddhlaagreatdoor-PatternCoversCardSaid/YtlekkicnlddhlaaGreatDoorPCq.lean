/- The row PatternCovers holds: what covers a pattern matches what this matches, and covering is as specified. Part 17 of 18. No condition. -/
import Derived.Test.YtlekkicnlddhlaaGreatDoorPCp
set_option linter.unusedVariables false
set_option linter.unnecessarySimpa false
set_option linter.unusedSimpArgs false
set_option maxRecDepth 100000
set_option maxHeartbeats 1000000
namespace Go.Proofs.YtlekkicnlddhlaaGreatDoor
open Go Go.Abs
theorem cf1 : Go.OpenClaim.wfByText (Go.OpenSpec.ofChange Rows.patternCoversSpec) Rows.patternCoversRow = true := by kernel_rfl
theorem cf2 : Tryz.prog.mainIs = some (true, "affc361a22e59a6840488ffe699382c695285309b234db8674153372a661832f".toList) := by kernel_rfl
theorem cf3 : Tryz.prog.funcNamed "pilaster/pilasterlaw20.PatternCovers" = some 3 := by kernel_rfl
theorem cf4 : true = Tryz.prog.looks [] := by kernel_rfl
theorem cf5 : ([24, 24, 24, 28].all fun u => !Tryz.prog.wantsStandIn u) = true := by kernel_rfl
theorem cf6 : false = Rows.patternCoversRow.goesBy Tryz.prog := by kernel_rfl
end Go.Proofs.YtlekkicnlddhlaaGreatDoor
