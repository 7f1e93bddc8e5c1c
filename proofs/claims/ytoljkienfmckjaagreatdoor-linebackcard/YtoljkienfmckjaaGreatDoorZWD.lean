/-
  Fixed calls, run by the kernel.
-/
import Derived.Test.YtoljkienfmckjaaGreatDoorAbsH
import Derived.Test.YtoljkienfmckjaaGreatDoorZC
import Derived.KernelRfl
set_option linter.unusedVariables false
set_option linter.unusedSimpArgs false
set_option maxRecDepth 100000
namespace Go.Z
open Go Go.Abs
theorem w4:callIso (tree.prog fun _=>none) (xcodeF (tree.prog fun _=>none) 1000) 18 [(.agg [(.list false 1 [(.int .i64 9),(.int .i64 19)]),(.list false 1 [(.int .i64 13),(.int .i64 21)])]),(.agg [(.str [100]),(.list false 1 [(.int .i64 30),(.int .i64 20)])])]=some ((.tup [(.list false 1 [(.int .i64 0)]),(.int .i64 0)]),false):=by kernel_rfl
theorem w12:callIso (tree.prog fun _=>none) (xcodeF (tree.prog fun _=>none) 1000) 22 [(.agg [(.list false 1 [(.int .i64 9),(.int .i64 19)]),(.list false 1 [(.int .i64 13),(.int .i64 21)])]),(.agg [(.list false 1 [(.int .i64 9),(.int .i64 19)]),(.list false 1 [(.int .i64 13),(.int .i64 21)])])]=some ((.bool true),false):=by kernel_rfl
theorem w20:callIso (tree.prog fun _=>none) (xcodeF (tree.prog fun _=>none) 1000) 28 [(.list false 1 [(.int .i64 3),(.int .i64 3),(.int .i64 2),(.int .i64 2),(.int .i64 2)]),(.int .i64 3)]=some ((.tup [(.list false 1 [(.int .i64 0),(.int .i64 1),(.int .i64 0),(.int .i64 1),(.int .i64 2)]),(.int .i64 5),(.int .i64 0)]),false):=by kernel_rfl
theorem w28:callIso (tree.prog fun _=>none) (xcodeF (tree.prog fun _=>none) 1000) 34 [(.list false 2 [(.agg [(.int .i64 0),(.int .i64 2)]),(.agg [(.int .i64 1),(.int .i64 3)])]),(.list false 2 [(.agg [(.int .i64 0),(.int .i64 2)]),(.agg [(.int .i64 1),(.int .i64 3)])])]=some ((.bool true),false):=by kernel_rfl
end Go.Z
