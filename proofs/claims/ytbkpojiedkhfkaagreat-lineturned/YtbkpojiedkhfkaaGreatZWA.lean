/-
  Fixed calls, run by the kernel.
-/
import Derived.Test.YtbkpojiedkhfkaaGreatAbsH
import Derived.Test.YtbkpojiedkhfkaaGreatZC
import Derived.KernelRfl
set_option linter.unusedVariables false
set_option linter.unusedSimpArgs false
set_option maxRecDepth 100000
namespace Go.Z
open Go Go.Abs
theorem w9:callIso (tree.prog fun _=>none) (xcodeF (tree.prog fun _=>none) 1000) 30 [(.agg [(.list false 1 [(.int .i64 10),(.int .i64 20)]),(.list false 1 [(.int .i64 12),(.int .i64 20)])]),(.agg [(.list false 1 [(.int .i64 10),(.int .i64 20)]),(.list false 1 [(.int .i64 12),(.int .i64 20)])])]=some ((.bool true),false):=by kernel_rfl
theorem w17:callIso (tree.prog fun _=>none) (xcodeF (tree.prog fun _=>none) 1000) 44 [(.agg [(.int .i64 4),(.int .i64 2),(.int .i64 0)]),(.list false 1 [(.bool false),(.bool false)])]=some ((.tup [(.bool true),(.int .i64 2),(.int .i64 0)]),false):=by kernel_rfl
theorem w19:callIso (tree.prog fun _=>none) (xcodeF (tree.prog fun _=>none) 1000) 74 [(.list false 1 [(.int .i64 3),(.int .i64 3),(.int .i64 2),(.int .i64 2),(.int .i64 2)]),(.int .i64 2)]=some ((.tup [(.list false 1 [(.int .i64 0),(.int .i64 0),(.int .i64 1),(.int .i64 1),(.int .i64 1)]),(.int .i64 6),(.int .i64 0)]),false):=by kernel_rfl
end Go.Z
