/- For every input the law PatternBack returns true. Part 8 of 23. No condition. -/
import Derived.Test.YtbnahfdbjaohkaaGreatDoorPBg
import Derived.Lib.Split
import Derived.Lib.SplitLaws
set_option linter.unusedVariables false
set_option linter.unnecessarySimpa false
set_option linter.unusedSimpArgs false
set_option maxRecDepth 100000
set_option maxHeartbeats 4000000
namespace Go.Proofs.YtbnahfdbjaohkaaGreatDoor
open Go

end Go.Proofs.YtbnahfdbjaohkaaGreatDoor
