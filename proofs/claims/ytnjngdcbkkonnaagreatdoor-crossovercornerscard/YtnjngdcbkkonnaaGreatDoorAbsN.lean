/- Equations for builders. -/
import Derived.Test.YtnjngdcbkkonnaaGreatDoorAbsL
import Derived.Test.YtnjngdcbkkonnaaGreatDoorAbsM
set_option linter.unusedVariables false
set_option linter.unusedSimpArgs false
namespace Go.Abs
section
variable {p:ju} {xc:XC} {h0:Nat} {al:Option (List Nat)} {e:Env} {h:qk}
@[go_sem] theorem jfv {n t u:Nat} {l:List UInt8}:ko n (.bld t u l)=true:=rfl
@[go_sem] theorem jb3 {n:Nat}:ko n .dead=true:=rfl
@[go_sem] theorem joi {n:Nat}:below n .any=true:=rfl
@[go_sem] theorem jvx {r t u:Nat}:qg p xc h0 al e h (.bld r t u)=qas (newBox h0 h r (.bld t u [])) (.ptr (h0 + r) 0):=by
 simp only [qg,qw,qas]
 cases newBox h0 h r (.bld t u []) <;> rfl
end
end Go.Abs
