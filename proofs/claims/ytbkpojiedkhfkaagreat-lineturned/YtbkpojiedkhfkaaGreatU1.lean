/-
  LineTutte: two families of masks: each mask holds one of the first, or meets not one of the second (checked by the kernel).
-/
import Derived.KernelRfl
import Derived.Test.YtbkpojiedkhfkaaGreatK1
set_option linter.unusedVariables false
set_option linter.unusedSimpArgs false
set_option maxRecDepth 100000
namespace Go.Z
end Go.Z
/-
 LineTutte: where all are paired with near ones,no set proves.
-/
namespace Go.Z
open Go Go.Abs
end Go.Z
/-
 LineTutte: classes with an odd number each,no near pair between two of them: as many parts with an odd number are counted,at least.
-/
namespace Go.Z
open Go Go.Abs
theorem dAt_symm (l:List GUnit) (i j:Int):dAt l i j=dAt l j i:=by
 unfold dAt
 cases l[i.toNat]? with
 | none=>cases l[j.toNat]? <;> rfl
 | some u=>
  cases l[j.toNat]? with
  | none=>rfl
  | some w=>exact diffU_self u w
theorem near_symm (l:List GUnit) (below i j:Int):near l below i j=near l below j i:=by unfold near; rw [dAt_symm]
end Go.Z
