/-
  Fixed calls, run by the kernel.
-/
import Derived.Test.YtoljkienfmckjaaGreatDoorAbsH
import Derived.Test.YtoljkienfmckjaaGreatDoorZC
import Derived.KernelRfl
set_option linter.unusedVariables false
set_option linter.unusedSimpArgs false
set_option maxRecDepth 100000
namespace Go.Z
open Go Go.Abs
theorem w6:callIso (tree.prog fun _=>none) (xcodeF (tree.prog fun _=>none) 1000) 20 [(.agg [(.list false 1 [(.int .i64 9),(.int .i64 19)]),(.list false 1 [(.int .i64 13),(.int .i64 21)])]),(.int .i64 1)]=some ((.tup [(.agg [(.list false 1 [(.int .i64 10),(.int .i64 20)]),(.list false 1 [(.int .i64 12),(.int .i64 20)])]),(.int .i64 0)]),false):=by kernel_rfl
theorem w14:callIso (tree.prog fun _=>none) (xcodeF (tree.prog fun _=>none) 1000) 24 [(.agg [(.int .i64 4),(.int .i64 2),(.int .i64 0)]),(.int .i64 2)]=some ((.tup [(.agg [(.int .i64 1),(.int .i64 6)]),(.int .i64 0)]),false):=by kernel_rfl
theorem w22:callIso (tree.prog fun _=>none) (xcodeF (tree.prog fun _=>none) 1000) 29 [(.list false 1 [(.int .i64 3),(.int .i64 3),(.int .i64 2),(.int .i64 2),(.int .i64 2)]),(.int .i64 3)]=some ((.tup [(.int .i64 4),(.int .i64 0)]),false):=by kernel_rfl
theorem w30:callIso (tree.prog fun _=>none) (xcodeF (tree.prog fun _=>none) 1000) 23 [(.list false 1 [(.int .i64 0),(.int .i64 0),(.int .i64 1),(.int .i64 1),(.int .i64 1)]),(.list false 1 [(.int .i64 0),(.int .i64 0),(.int .i64 1),(.int .i64 1),(.int .i64 1)])]=some ((.bool true),false):=by kernel_rfl
end Go.Z
