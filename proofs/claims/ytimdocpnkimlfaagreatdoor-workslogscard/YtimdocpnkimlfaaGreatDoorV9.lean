/- Chapter 10. -/
import Derived.Test.YtimdocpnkimlfaaGreatDoorW4
import Derived.Test.YtimdocpnkimlfaaGreatDoorW12
set_option linter.unusedVariables false
set_option linter.unusedSimpArgs false
set_option maxRecDepth 100000
set_option maxHeartbeats 4000000
namespace Go.Z
open Go Go.Abs Go.W
@[go_sem] theorem jvi {b v l}:(AVal.aA b v l).flat=[.aA b v l]:=rfl
@[go_sem] theorem j3s {b v l}:qk (.aA b v l)=true:=rfl
@[go_sem] theorem ju0 {b v l}:AVal.b6 (.aA b v l)=false:=rfl
section
variable {h:ql}{α:Type}
end
structure HV where
 ev:List aT
 ve:Nat
 cs:List aT
 lc:Nat
 vc:Nat
 ss:List fW
 ls:Nat
 vs:Nat
end Go.Z
