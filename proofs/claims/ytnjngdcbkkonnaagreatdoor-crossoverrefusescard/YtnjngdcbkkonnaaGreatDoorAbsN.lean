/- Equations for builders. -/
import Derived.Test.YtnjngdcbkkonnaaGreatDoorAbsL
import Derived.Test.YtnjngdcbkkonnaaGreatDoorAbsM
set_option linter.unusedVariables false
set_option linter.unusedSimpArgs false
namespace Go.Abs
section
variable {p:qn}{xc:XC}{h0:Nat}{al:Option (List Nat)}{e:Env}{h:zd}
@[go_sem] theorem jl1 {n t u:Nat}{l:List UInt8}:qbb n (.bld t u l)=true:=rfl
@[go_sem] theorem ji3 {n:Nat}:qbb n .dead=true:=rfl
@[go_sem] theorem jxb {n:Nat}:below n .any=true:=rfl
@[go_sem] theorem j51 {r t u:Nat}:j9 p xc h0 al e h (.bld r t u)=qbv (newBox h0 h r (.bld t u [])) (.ptr (h0+r) 0):=by
 simp only[j9,zr,qbv]
 cases newBox h0 h r (.bld t u [])<;>rfl
end
end Go.Abs
