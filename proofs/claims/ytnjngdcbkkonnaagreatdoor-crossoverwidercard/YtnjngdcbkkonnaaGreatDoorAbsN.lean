/- Equations for builders. -/
import Derived.Test.YtnjngdcbkkonnaaGreatDoorAbsL
import Derived.Test.YtnjngdcbkkonnaaGreatDoorAbsM
set_option linter.unusedVariables false
set_option linter.unusedSimpArgs false
namespace Go.Abs
section
variable {p:qo}{xc:XC}{h0:Nat}{al:Option (List Nat)}{e:Env}{h:ze}
@[go_sem] theorem jom {n t u:Nat}{l:List UInt8}:qa4 n (.bld t u l)=true:=rfl
@[go_sem] theorem jk8 {n:Nat}:qa4 n .dead=true:=rfl
@[go_sem] theorem jzc {n:Nat}:below n .any=true:=rfl
@[go_sem] theorem j6d {r t u:Nat}:j8 p xc h0 al e h (.bld r t u)=qbx (newBox h0 h r (.bld t u [])) (.ptr (h0+r) 0):=by
 simp only[j8,zp,qbx]
 cases newBox h0 h r (.bld t u [])<;>rfl
end
end Go.Abs
