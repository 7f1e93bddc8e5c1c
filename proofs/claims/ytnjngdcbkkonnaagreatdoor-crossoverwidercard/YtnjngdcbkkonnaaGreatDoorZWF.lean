/- Fixed calls, run by the kernel. -/
import Derived.Test.YtnjngdcbkkonnaaGreatDoorAbsH
import Derived.Test.YtnjngdcbkkonnaaGreatDoorZC
import Derived.Test.YtnjngdcbkkonnaaGreatDoorZM
import Derived.KernelRfl
set_option linter.unusedVariables false
set_option linter.unusedSimpArgs false
set_option maxRecDepth 100000
namespace Go.Z
open Go Go.Abs
theorem w4:zb pr (kx pr 1000) 31 [(.list false 8 [(.agg [.str [114],.str [115,101,114,105,101,115],.int .i64 2,.int .i64 0,.int .i64 0,.int .i64 0,.int .i64 3,.int .i64 2]),(.agg [.str [99],.str [115,104,117,110,116],.int .i64 0,.int .i64 1,.int .i64 0,.int .i64 0,.int .i64 5,.int .i64 1]),(.agg [.str [100],.str [115,104,117,110,116],.int .i64 0,.int .i64 1,.int .i64 0,.int .i64 1,.int .i64 4,.int .i64 1])]),.list false 1 [.int .i64 0,.int .i64 2],.int .i64 1]=some ((.tup [.agg [.int .i64 1,.int .i64 17],.int .i64 0]),false):=by kernel_rfl
theorem w12:zb pr (kx pr 1000) 68 [(.list false 8 [(.agg [.str [114],.str [115,101,114,105,101,115],.int .i64 2,.int .i64 0,.int .i64 0,.int .i64 0,.int .i64 3,.int .i64 2]),(.agg [.str [99],.str [115,104,117,110,116],.int .i64 0,.int .i64 1,.int .i64 0,.int .i64 0,.int .i64 5,.int .i64 1]),(.agg [.str [100],.str [115,104,117,110,116],.int .i64 0,.int .i64 1,.int .i64 0,.int .i64 1,.int .i64 4,.int .i64 1])]),.list false 1 [.int .i64 0,.int .i64 0,.int .i64 0]]=some ((.tup [.bool false,.int .i64 0]),false):=by kernel_rfl
theorem w18:zb pr (kx pr 1000) 45 [(.list false 3 [(.agg [.str [115,101,114,105,101,115],.int .i64 1,.int .i64 0]),(.agg [.str [115,104,117,110,116],.int .i64 0,.int .i64 1])]),(.list false 3 [(.agg [.str [98,108,111,99,107],.int .i64 0,.int .i64 1]),(.agg [.str [115,104,117,110,116],.int .i64 1,.int .i64 0])]),.int .i64 1,.bool true]=some ((.tup [.agg [.int .i64 2,.int .i64 0,.int .i64 0,.int .i64 2],.int .i64 0]),false):=by kernel_rfl
end Go.Z
