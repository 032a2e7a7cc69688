/- For every input the law LexerLiterals returns true. Part 10 of 11. No condition. -/
import Derived.Test.YthbjlmoaceaeeaaLAi
import Derived.Test.YthbjlmoaceaeeaaRows
set_option linter.unusedVariables false
set_option linter.unusedSimpArgs false
set_option maxRecDepth 100000
namespace Go.Proofs.Ythbjlmoaceaeeaa
open Go Go.Abs
theorem own : ownKnob Try.prog.godebug = none := by kernel_rfl
theorem laid : laidOutB Try.prog = true := by kernel_rfl
end Go.Proofs.Ythbjlmoaceaeeaa
