/-
  Fixed calls, run by the kernel.
-/
import Derived.Test.YtoljkienfmckjaaGreatDoorAbsH
import Derived.Test.YtoljkienfmckjaaGreatDoorZC
import Derived.KernelRfl
set_option linter.unusedVariables false
set_option linter.unusedSimpArgs false
set_option maxRecDepth 100000
namespace Go.Z
open Go Go.Abs
theorem w7:callIso (tree.prog fun _=>none) (xcodeF (tree.prog fun _=>none) 1000) 20 [(.agg [(.list false 1 [(.int .i64 9),(.int .i64 19)]),(.list false 1 [(.int .i64 13),(.int .i64 21)])]),(.int .i64 2)]=some ((.tup [(.agg [(.list true 0 []),(.list true 0 [])]),(.int .i64 24)]),false):=by kernel_rfl
theorem w15:callIso (tree.prog fun _=>none) (xcodeF (tree.prog fun _=>none) 1000) 25 [(.agg [(.int .i64 4),(.int .i64 2),(.int .i64 0)]),(.int .i64 0),(.int .i64 2)]=some ((.tup [(.agg [(.int .i64 0),(.int .i64 1),(.int .i64 1),(.int .i64 6)]),(.int .i64 0)]),false):=by kernel_rfl
theorem w23:callIso (tree.prog fun _=>none) (xcodeF (tree.prog fun _=>none) 1000) 30 [(.list false 2 [(.agg [(.str [97]),(.list false 1 [(.int .i64 10),(.int .i64 20)])]),(.agg [(.str [98]),(.list false 1 [(.int .i64 12),(.int .i64 20)])]),(.agg [(.str [99]),(.list false 1 [(.int .i64 11),(.int .i64 26)])]),(.agg [(.str [100]),(.list false 1 [(.int .i64 30),(.int .i64 20)])])])]=some ((.tup [(.list false 2 [(.agg [(.int .i64 0),(.int .i64 2)]),(.agg [(.int .i64 1),(.int .i64 3)])]),(.int .i64 18),(.int .i64 0)]),false):=by kernel_rfl
end Go.Z
