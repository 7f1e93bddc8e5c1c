/-
  Fixed calls, run by the kernel.
-/
import Derived.Test.YtbjckbpblomblaaAbsH
import Derived.Test.YtbjckbpblomblaaZC
import Derived.KernelRfl
set_option linter.unusedVariables false
set_option linter.unusedSimpArgs false
set_option maxRecDepth 100000
namespace Go.Z
open Go Go.Abs
theorem w8:callIso (tree.prog fun _=>none) (xcodeF (tree.prog fun _=>none) 1000) 17 [(.list false 1 [(.int .i64 2),(.int .i64 1),(.int .i64 0),(.int .i64 1)]),(.list false 1 [(.int .i64 2),(.int .i64 1),(.int .i64 0),(.int .i64 1)])]=some ((.bool true),false):=by kernel_rfl
end Go.Z
