/-
  LineProofs: the product's part of a set: a function that mirrors the run, and the run, on any heap behind the set.
-/
import Derived.Test.YtbkpojiedkhfkaaGreatR4
set_option linter.unusedVariables false
set_option linter.unusedSimpArgs false
set_option maxRecDepth 100000
set_option maxHeartbeats 4000000
namespace Go.Z
open Go Go.Abs
end Go.Z
