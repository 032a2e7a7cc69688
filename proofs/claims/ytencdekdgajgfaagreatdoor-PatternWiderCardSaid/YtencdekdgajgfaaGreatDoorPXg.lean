/- For every input the law PatternWider returns true. Part 7 of 22. No condition. -/
import Derived.Test.YtencdekdgajgfaaGreatDoorPXf
import Derived.Lib.Split
import Derived.Lib.SplitLaws
set_option linter.unusedVariables false
set_option linter.unnecessarySimpa false
set_option linter.unusedSimpArgs false
set_option maxRecDepth 100000
set_option maxHeartbeats 1000000
namespace Go.Proofs.YtencdekdgajgfaaGreatDoor
open Go

end Go.Proofs.YtencdekdgajgfaaGreatDoor
