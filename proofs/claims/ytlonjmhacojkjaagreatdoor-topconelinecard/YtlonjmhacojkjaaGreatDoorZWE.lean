/-
  Fixed calls, run by the kernel.
-/
import Derived.Test.YtlonjmhacojkjaaGreatDoorAbsH
import Derived.Test.YtlonjmhacojkjaaGreatDoorZC
import Derived.KernelRfl
set_option linter.unusedVariables false
set_option linter.unusedSimpArgs false
set_option maxRecDepth 100000
namespace Go.Z
open Go Go.Abs
theorem w5:callIso (tree.prog fun _=>none) (xcodeF (tree.prog fun _=>none) 1000) 16 [(.list false 2 [(.agg [(.int .i64 0),(.int .i64 2)]),(.agg [(.int .i64 1),(.int .i64 3)])]),(.list false 2 [(.agg [(.int .i64 0),(.int .i64 2)]),(.agg [(.int .i64 1),(.int .i64 3)])])]=some ((.bool true),false):=by kernel_rfl
end Go.Z
