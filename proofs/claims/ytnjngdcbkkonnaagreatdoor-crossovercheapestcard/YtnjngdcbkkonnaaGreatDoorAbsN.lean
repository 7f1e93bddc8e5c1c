/- Equations for builders. -/
import Derived.Test.YtnjngdcbkkonnaaGreatDoorAbsL
import Derived.Test.YtnjngdcbkkonnaaGreatDoorAbsM
set_option linter.unusedVariables false
set_option linter.unusedSimpArgs false
namespace Go.Abs
section
variable {p:jl} {xc:XC} {h0:Nat} {al:Option (List Nat)} {e:Env} {h:qk}
@[go_sem] theorem jgr {n t u:Nat} {l:List UInt8}:kh n (.bld t u l)=true:=rfl
@[go_sem] theorem jeu {n:Nat}:kh n .dead=true:=rfl
@[go_sem] theorem jsn {n:Nat}:below n .any=true:=rfl
@[go_sem] theorem j0l {r t u:Nat}:qe p xc h0 al e h (.bld r t u)=qaa (newBox h0 h r (.bld t u [])) (.ptr (h0 + r) 0):=by
 simp only [qe,qx,qaa]
 cases newBox h0 h r (.bld t u []) <;> rfl
end
end Go.Abs
