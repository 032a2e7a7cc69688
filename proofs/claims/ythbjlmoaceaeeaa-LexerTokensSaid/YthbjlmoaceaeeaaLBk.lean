/- For every input the law LexerTokens returns true. Part 11 of 12. No condition. -/
import Derived.Test.YthbjlmoaceaeeaaLBj
import Derived.Test.YthbjlmoaceaeeaaRows
set_option linter.unusedVariables false
set_option linter.unusedSimpArgs false
set_option maxRecDepth 100000
namespace Go.Proofs.Ythbjlmoaceaeeaa
open Go Go.Abs
theorem own : ownKnob Try.prog.godebug = none := by kernel_rfl
theorem laid : laidOutB Try.prog = true := by kernel_rfl
end Go.Proofs.Ythbjlmoaceaeeaa
