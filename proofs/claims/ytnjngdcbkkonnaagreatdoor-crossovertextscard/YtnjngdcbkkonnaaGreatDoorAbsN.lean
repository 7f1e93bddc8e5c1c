/- Equations for builders. -/
import Derived.Test.YtnjngdcbkkonnaaGreatDoorAbsL
import Derived.Test.YtnjngdcbkkonnaaGreatDoorAbsM
set_option linter.unusedVariables false
set_option linter.unusedSimpArgs false
namespace Go.Abs
section
variable {p:jm} {xc:XC} {h0:Nat} {al:Option (List Nat)} {e:Env} {h:qm}
@[go_sem] theorem q67 {n t u:Nat} {l:List UInt8}:qbb n (.bld t u l)=true:=rfl
@[go_sem] theorem q58 {n:Nat}:qbb n .dead=true:=rfl
@[go_sem] theorem jia {n:Nat}:below n .any=true:=rfl
@[go_sem] theorem jny {r t u:Nat}:qc p xc h0 al e h (.bld r t u)=kl (newBox h0 h r (.bld t u [])) (.ptr (h0 + r) 0):=by
 simp only [qc,qu,kl]
 cases newBox h0 h r (.bld t u []) <;> rfl
end
end Go.Abs
