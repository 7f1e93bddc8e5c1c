/-
  Fixed calls, run by the kernel.
-/
import Derived.Test.YtbkpojiedkhfkaaGreatAbsH
import Derived.Test.YtbkpojiedkhfkaaGreatZC
import Derived.KernelRfl
set_option linter.unusedVariables false
set_option linter.unusedSimpArgs false
set_option maxRecDepth 100000
namespace Go.Z
open Go Go.Abs
theorem w11:callIso (tree.prog fun _=>none) (xcodeF (tree.prog fun _=>none) 1000) 39 [(.list false 1 [(.int .i64 1)]),(.list false 1 [(.int .i64 1)])]=some ((.bool true),false):=by kernel_rfl
theorem w24:callIso (tree.prog fun _=>none) (xcodeF (tree.prog fun _=>none) 1000) 60 [(.list false 2 [(.agg [(.str [97]),(.list false 1 [(.int .i64 10),(.int .i64 20)])]),(.agg [(.str [98]),(.list false 1 [(.int .i64 12),(.int .i64 20)])]),(.agg [(.str [99]),(.list false 1 [(.int .i64 11),(.int .i64 26)])]),(.agg [(.str [100]),(.list false 1 [(.int .i64 30),(.int .i64 20)])])]),(.int .i64 18)]=some ((.tup [(.list true 0 []),(.int .i64 0)]),false):=by kernel_rfl
theorem w26:callIso (tree.prog fun _=>none) (xcodeF (tree.prog fun _=>none) 1000) 57 [(.list false 2 [(.agg [(.str [97]),(.list false 1 [(.int .i64 10),(.int .i64 20)])]),(.agg [(.str [98]),(.list false 1 [(.int .i64 12),(.int .i64 20)])]),(.agg [(.str [99]),(.list false 1 [(.int .i64 11),(.int .i64 26)])]),(.agg [(.str [100]),(.list false 1 [(.int .i64 30),(.int .i64 20)])])])]=some ((.tup [(.int .i64 1),(.int .i64 0)]),false):=by kernel_rfl
theorem w29:callIso (tree.prog fun _=>none) (xcodeF (tree.prog fun _=>none) 1000) 39 [(.list false 1 [(.int .i64 0),(.int .i64 1),(.int .i64 0),(.int .i64 1),(.int .i64 2)]),(.list false 1 [(.int .i64 0),(.int .i64 1),(.int .i64 0),(.int .i64 1),(.int .i64 2)])]=some ((.bool true),false):=by kernel_rfl
end Go.Z
