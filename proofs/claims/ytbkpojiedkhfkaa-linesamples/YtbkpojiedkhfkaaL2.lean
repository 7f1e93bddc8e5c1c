/-
  Copies, comparisons, sizes: their runs.
-/
import Derived.Test.YtbkpojiedkhfkaaL1
set_option linter.unusedVariables false
set_option linter.unusedSimpArgs false
set_option maxRecDepth 100000
set_option linter.unusedSimpArgs false
namespace Go.Z
open Go Go.Abs
structure GUnit where
  serial : List UInt8
  values : Option (List Int)
def vunit (u : GUnit) : AVal := .agg [.str u.serial, sl 1 vint u.values]
@[go_sem] theorem flat_vunit {u : GUnit} : (vunit u).flat = [.str u.serial, sl 1 vint u.values] := rfl
theorem below_vunit {n : Nat} (u : GUnit) : below n (vunit u) = true := by simp only [vunit, go_sem]
@[go_sem] theorem below_units {n : Nat} {l : Option (List GUnit)} : below n (sl 2 vunit l) = true := below_sl below_vunit
end Go.Z
