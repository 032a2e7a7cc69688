/- The row PatternCovers holds: what covers a pattern matches what this matches, and covering is as specified. Part 7 of 18. No condition. -/
import Derived.Test.YtlekkicnlddhlaaGreatDoorPCf
import Derived.Lib.Split
import Derived.Lib.SplitLaws
set_option linter.unusedVariables false
set_option linter.unnecessarySimpa false
set_option linter.unusedSimpArgs false
set_option maxRecDepth 100000
set_option maxHeartbeats 1000000
namespace Go.Proofs.YtlekkicnlddhlaaGreatDoor
open Go

end Go.Proofs.YtlekkicnlddhlaaGreatDoor
