/-
  Lists of truth values.
-/
import Derived.Test.YtbkpojiedkhfkaaGreatG0
import Derived.Test.YtbkpojiedkhfkaaGreatG0m
import Derived.Test.YtbkpojiedkhfkaaGreatP7
set_option linter.unusedVariables false
set_option linter.unusedSimpArgs false
set_option linter.unusedSimpArgs false
namespace Go.Z
open Go Go.Abs
end Go.Z
