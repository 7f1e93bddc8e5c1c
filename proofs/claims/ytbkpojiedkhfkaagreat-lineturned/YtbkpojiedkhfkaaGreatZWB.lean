/-
  Fixed calls, run by the kernel.
-/
import Derived.Test.YtbkpojiedkhfkaaGreatAbsH
import Derived.Test.YtbkpojiedkhfkaaGreatZC
import Derived.KernelRfl
set_option linter.unusedVariables false
set_option linter.unusedSimpArgs false
set_option maxRecDepth 100000
namespace Go.Z
open Go Go.Abs
theorem w10:callIso (tree.prog fun _=>none) (xcodeF (tree.prog fun _=>none) 1000) 39 [(.list false 1 [(.int .i64 0)]),(.list false 1 [(.int .i64 0)])]=some ((.bool true),false):=by kernel_rfl
theorem w18:callIso (tree.prog fun _=>none) (xcodeF (tree.prog fun _=>none) 1000) 44 [(.agg [(.int .i64 4),(.int .i64 2),(.int .i64 0)]),(.list false 1 [(.bool true)])]=some ((.tup [(.bool false),(.int .i64 1),(.int .i64 0)]),false):=by kernel_rfl
theorem w20:callIso (tree.prog fun _=>none) (xcodeF (tree.prog fun _=>none) 1000) 74 [(.list false 1 [(.int .i64 3),(.int .i64 3),(.int .i64 2),(.int .i64 2),(.int .i64 2)]),(.int .i64 3)]=some ((.tup [(.list false 1 [(.int .i64 0),(.int .i64 1),(.int .i64 0),(.int .i64 1),(.int .i64 2)]),(.int .i64 5),(.int .i64 0)]),false):=by kernel_rfl
end Go.Z
