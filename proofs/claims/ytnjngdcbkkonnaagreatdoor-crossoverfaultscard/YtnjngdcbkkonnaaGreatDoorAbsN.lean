/-
  Equations for builders.
-/
import Derived.Test.YtnjngdcbkkonnaaGreatDoorAbsL
import Derived.Test.YtnjngdcbkkonnaaGreatDoorAbsM
set_option linter.unusedVariables false
set_option linter.unusedSimpArgs false
namespace Go.Abs
section
variable {p:js} {xc:XC} {h0:Nat} {al:Option (List Nat)} {e:Env} {h:ql}
@[go_sem] theorem jes {n t u:Nat} {l:List UInt8}:y9 n (.bld t u l)=true:=rfl
@[go_sem] theorem jad {n:Nat}:y9 n .dead=true:=rfl
@[go_sem] theorem jmx {n:Nat}:below n .any=true:=rfl
@[go_sem] theorem ju2 {r t u:Nat}:qh p xc h0 al e h (.bld r t u)=qai (newBox h0 h r (.bld t u [])) (.ptr (h0 + r) 0):=by
 simp only [qh,qy,qai]
 cases newBox h0 h r (.bld t u []) <;> rfl
end
end Go.Abs
