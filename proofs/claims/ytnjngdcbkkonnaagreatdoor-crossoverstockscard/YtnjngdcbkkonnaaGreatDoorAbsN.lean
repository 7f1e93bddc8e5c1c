/-
  Equations for builders.
-/
import Derived.Test.YtnjngdcbkkonnaaGreatDoorAbsL
import Derived.Test.YtnjngdcbkkonnaaGreatDoorAbsM
set_option linter.unusedVariables false
set_option linter.unusedSimpArgs false
namespace Go.Abs
section
variable {p:jj} {xc:XC} {h0:Nat} {al:Option (List Nat)} {e:Env} {h:qn}
@[go_sem] theorem q72 {n t u:Nat} {l:List UInt8}:qa4 n (.bld t u l)=true:=rfl
@[go_sem] theorem q5u {n:Nat}:qa4 n .dead=true:=rfl
@[go_sem] theorem jia {n:Nat}:below n .any=true:=rfl
@[go_sem] theorem jnv {r t u:Nat}:qe p xc h0 al e h (.bld r t u)=kc (newBox h0 h r (.bld t u [])) (.ptr (h0 + r) 0):=by
 simp only [qe,qw,kc]
 cases newBox h0 h r (.bld t u []) <;> rfl
end
end Go.Abs
