/- Equations for builders. -/
import Derived.Test.YtnjngdcbkkonnaaGreatDoorAbsL
import Derived.Test.YtnjngdcbkkonnaaGreatDoorAbsM
set_option linter.unusedVariables false
set_option linter.unusedSimpArgs false
namespace Go.Abs
section
variable {p:jk} {xc:XC} {h0:Nat} {al:Option (List Nat)} {e:Env} {h:qh}
@[go_sem] theorem q6z {n t u:Nat} {l:List UInt8}:qa0 n (.bld t u l)=true:=rfl
@[go_sem] theorem q48 {n:Nat}:qa0 n .dead=true:=rfl
@[go_sem] theorem jg7 {n:Nat}:below n .any=true:=rfl
@[go_sem] theorem jmp {r t u:Nat}:qc p xc h0 al e h (.bld r t u)=kf (newBox h0 h r (.bld t u [])) (.ptr (h0 + r) 0):=by
 simp only [qc,qu,kf]
 cases newBox h0 h r (.bld t u []) <;> rfl
end
end Go.Abs
