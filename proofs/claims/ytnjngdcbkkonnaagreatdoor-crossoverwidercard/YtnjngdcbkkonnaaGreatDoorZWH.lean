/- Fixed calls, run by the kernel. -/
import Derived.Test.YtnjngdcbkkonnaaGreatDoorAbsH
import Derived.Test.YtnjngdcbkkonnaaGreatDoorZC
import Derived.Test.YtnjngdcbkkonnaaGreatDoorZM
import Derived.KernelRfl
set_option linter.unusedVariables false
set_option linter.unusedSimpArgs false
set_option maxRecDepth 100000
namespace Go.Z
open Go Go.Abs
theorem w8:zb pr (kx pr 1000) 37 [(.list false 8 [(.agg [.str [114],.str [115,101,114,105,101,115],.int .i64 2,.int .i64 0,.int .i64 0,.int .i64 0,.int .i64 3,.int .i64 2]),(.agg [.str [99],.str [115,104,117,110,116],.int .i64 0,.int .i64 1,.int .i64 0,.int .i64 0,.int .i64 5,.int .i64 1]),(.agg [.str [100],.str [115,104,117,110,116],.int .i64 0,.int .i64 1,.int .i64 0,.int .i64 1,.int .i64 4,.int .i64 1])]),(.list false 5 [.agg [.int .i64 1,.int .i64 0,.int .i64 1,.int .i64 1,.int .i64 4]]),.int .i64 2]=some ((.tup [.list false 1 [.int .i64 0,.int .i64 1],.int .i64 8,.int .i64 0]),false):=by kernel_rfl
theorem w14:zb pr (kx pr 1000) 27 [(.list false 3 [(.agg [.str [115,101,114,105,101,115],.int .i64 2,.int .i64 0]),(.agg [.str [115,104,117,110,116],.int .i64 0,.int .i64 0])])]=some ((.list false 3 [(.agg [.str [115,101,114,105,101,115],.int .i64 2,.int .i64 0]),(.agg [.str [115,104,117,110,116],.int .i64 0,.int .i64 0])]),true):=by kernel_rfl
theorem w20:zb pr (kx pr 1000) 48 [(.list false 3 [(.agg [.str [115,101,114,105,101,115],.int .i64 1,.int .i64 0]),(.agg [.str [115,104,117,110,116],.int .i64 0,.int .i64 1])]),(.list false 3 [(.agg [.str [98,108,111,99,107],.int .i64 0,.int .i64 1]),(.agg [.str [115,104,117,110,116],.int .i64 1,.int .i64 0])]),.int .i64 1,.int .i64 3]=some ((.tup [.int .i64 1,.int .i64 0]),false):=by kernel_rfl
end Go.Z
