/-
  Equations for builders.
-/
import Derived.Test.YtnjngdcbkkonnaaGreatDoorAbsL
import Derived.Test.YtnjngdcbkkonnaaGreatDoorAbsM
set_option linter.unusedVariables false
set_option linter.unusedSimpArgs false
namespace Go.Abs
section
variable {p:AProg} {xc:XC} {h0:Nat} {al:Option (List Nat)} {e:Env} {h:Heap}
@[go_sem] theorem belowBox_bld {n t u:Nat} {l:List UInt8}:belowBox n (.bld t u l)=true:=rfl
@[go_sem] theorem belowBox_dead {n:Nat}:belowBox n .dead=true:=rfl
@[go_sem] theorem below_any {n:Nat}:below n .any=true:=rfl
@[go_sem] theorem s_bld {r t u:Nat}:stepOp p xc h0 al e h (.bld r t u)=newR (newBox h0 h r (.bld t u [])) (.ptr (h0 + r) 0):=by
 simp only [stepOp,stepWrite,newR]
 cases newBox h0 h r (.bld t u []) <;> rfl
end
end Go.Abs
