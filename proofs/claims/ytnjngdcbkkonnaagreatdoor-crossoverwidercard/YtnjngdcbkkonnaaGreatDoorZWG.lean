/- Fixed calls, run by the kernel. -/
import Derived.Test.YtnjngdcbkkonnaaGreatDoorAbsH
import Derived.Test.YtnjngdcbkkonnaaGreatDoorZC
import Derived.Test.YtnjngdcbkkonnaaGreatDoorZM
import Derived.KernelRfl
set_option linter.unusedVariables false
set_option linter.unusedSimpArgs false
set_option maxRecDepth 100000
namespace Go.Z
open Go Go.Abs
theorem w6:zb pr (kx pr 1000) 98 []=some ((.list false 5 [.agg [.int .i64 1,.int .i64 0,.int .i64 1,.int .i64 1,.int .i64 4]]),true):=by kernel_rfl
theorem w13:zb pr (kx pr 1000) 26 [(.list false 3 [(.agg [.str [115,101,114,105,101,115],.int .i64 2,.int .i64 0]),(.agg [.str [115,104,117,110,116],.int .i64 0,.int .i64 0])]),(.list false 3 [(.agg [.str [115,101,114,105,101,115],.int .i64 2,.int .i64 0]),(.agg [.str [115,104,117,110,116],.int .i64 0,.int .i64 0])])]=some ((.bool true),false):=by kernel_rfl
theorem w19:zb pr (kx pr 1000) 47 [(.list false 3 [(.agg [.str [115,101,114,105,101,115],.int .i64 1,.int .i64 0]),(.agg [.str [115,104,117,110,116],.int .i64 0,.int .i64 1])]),(.list false 3 [(.agg [.str [98,108,111,99,107],.int .i64 0,.int .i64 1]),(.agg [.str [115,104,117,110,116],.int .i64 1,.int .i64 0])]),.int .i64 1,.bool true]=some ((.tup [.agg [.int .i64 1,.int .i64 1],.int .i64 0]),false):=by kernel_rfl
end Go.Z
