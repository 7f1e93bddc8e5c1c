/-
  Comparisons of structs.
-/
import Derived.Test.YtbkpojiedkhfkaaGreatG0
import Derived.Test.YtbkpojiedkhfkaaGreatL14
set_option linter.unusedVariables false
set_option linter.unusedSimpArgs false
namespace Go.Z
open Go Go.Abs
end Go.Z
