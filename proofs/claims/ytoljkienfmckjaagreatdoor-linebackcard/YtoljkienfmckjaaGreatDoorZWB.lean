/-
  Fixed calls, run by the kernel.
-/
import Derived.Test.YtoljkienfmckjaaGreatDoorAbsH
import Derived.Test.YtoljkienfmckjaaGreatDoorZC
import Derived.KernelRfl
set_option linter.unusedVariables false
set_option linter.unusedSimpArgs false
set_option maxRecDepth 100000
namespace Go.Z
open Go Go.Abs
theorem w2:callIso (tree.prog fun _=>none) (xcodeF (tree.prog fun _=>none) 1000) 17 []=some ((.list false 2 [(.agg [(.str [97]),(.list false 1 [(.int .i64 10),(.int .i64 20)])]),(.agg [(.str [98]),(.list false 1 [(.int .i64 12),(.int .i64 20)])]),(.agg [(.str [99]),(.list false 1 [(.int .i64 11),(.int .i64 26)])]),(.agg [(.str [100]),(.list false 1 [(.int .i64 30),(.int .i64 20)])])]),true):=by kernel_rfl
theorem w10:callIso (tree.prog fun _=>none) (xcodeF (tree.prog fun _=>none) 1000) 23 [(.list false 1 [(.int .i64 0)]),(.list false 1 [(.int .i64 0)])]=some ((.bool true),false):=by kernel_rfl
theorem w18:callIso (tree.prog fun _=>none) (xcodeF (tree.prog fun _=>none) 1000) 27 [(.agg [(.int .i64 4),(.int .i64 2),(.int .i64 0)]),(.list false 1 [(.bool true)])]=some ((.tup [(.bool false),(.int .i64 1),(.int .i64 0)]),false):=by kernel_rfl
theorem w26:callIso (tree.prog fun _=>none) (xcodeF (tree.prog fun _=>none) 1000) 32 [(.list false 2 [(.agg [(.str [97]),(.list false 1 [(.int .i64 10),(.int .i64 20)])]),(.agg [(.str [98]),(.list false 1 [(.int .i64 12),(.int .i64 20)])]),(.agg [(.str [99]),(.list false 1 [(.int .i64 11),(.int .i64 26)])]),(.agg [(.str [100]),(.list false 1 [(.int .i64 30),(.int .i64 20)])])])]=some ((.tup [(.int .i64 1),(.int .i64 0)]),false):=by kernel_rfl
end Go.Z
