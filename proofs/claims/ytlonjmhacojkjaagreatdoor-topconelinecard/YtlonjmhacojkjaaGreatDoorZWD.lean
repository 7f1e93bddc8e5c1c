/-
  Fixed calls, run by the kernel.
-/
import Derived.Test.YtlonjmhacojkjaaGreatDoorAbsH
import Derived.Test.YtlonjmhacojkjaaGreatDoorZC
import Derived.KernelRfl
set_option linter.unusedVariables false
set_option linter.unusedSimpArgs false
set_option maxRecDepth 100000
namespace Go.Z
open Go Go.Abs
theorem w4:callIso (tree.prog fun _=>none) (xcodeF (tree.prog fun _=>none) 1000) 15 [(.list false 2 [(.agg [(.str [97]),(.list false 1 [(.int .i64 5)])]),(.agg [(.str [98]),(.list false 1 [(.int .i64 1)])]),(.agg [(.str [99]),(.list false 1 [(.int .i64 4)])]),(.agg [(.str [100]),(.list false 1 [(.int .i64 2)])])])]=some ((.tup [(.list false 2 [(.agg [(.int .i64 0),(.int .i64 2)]),(.agg [(.int .i64 1),(.int .i64 3)])]),(.int .i64 1),(.int .i64 0)]),false):=by kernel_rfl
end Go.Z
