/-
  Plans: numbers of ways, and the checks: the runs.
-/
import Derived.Test.YtbkpojiedkhfkaaGreatL14
import Derived.Test.YtbkpojiedkhfkaaGreatAbsH
import Derived.KernelRfl
set_option linter.unusedVariables false
set_option linter.unusedSimpArgs false
set_option maxRecDepth 100000
set_option linter.unusedSimpArgs false
namespace Go.Z
open Go Go.Abs
end Go.Z
/-
  Plans: acceptance: the runs.
-/
set_option maxRecDepth 100000
set_option linter.unusedSimpArgs false
namespace Go.Z
open Go Go.Abs
end Go.Z
/-
  Binomials: that the numbers of ways are Pascal's, and Vandermonde's sum.
-/
set_option maxRecDepth 100000
set_option linter.unusedSimpArgs false
namespace Go.Z
open Go Go.Abs
def conv (f g : Nat → Nat) : Nat → Nat
  | 0 => f 0 * g 0
  | s + 1 => f 0 * g (s + 1) + conv (fun k => f (k + 1)) g s
end Go.Z
/-
  Acceptance in numbers; risks: the runs.
-/
set_option maxRecDepth 100000
set_option linter.unusedSimpArgs false
namespace Go.Z
open Go Go.Abs
end Go.Z
/-
  Acceptance and risks, both: the runs.
-/
set_option maxRecDepth 100000
set_option linter.unusedSimpArgs false
namespace Go.Z
open Go Go.Abs
end Go.Z
/-
  Risks of the product, with errors; decisions: the runs.
-/
set_option maxRecDepth 100000
set_option linter.unusedSimpArgs false
namespace Go.Z
open Go Go.Abs
end Go.Z
/-
  Decisions, both: the runs.
-/
set_option maxRecDepth 100000
set_option linter.unusedSimpArgs false
namespace Go.Z
open Go Go.Abs
def vbool (b : Bool) : AVal := .bool b
@[go_sem] theorem loadR_vbool {h0 : Nat} {al : Option (List Nat)} {h : Heap} {b : Bool} : loadR h0 al false 1 h (some (.vptr (vbool b))) = some ⟨.bool b, false, none, h⟩ := rfl
@[go_sem] theorem below_bools {n z : Nat} {l : Option (List Bool)} : below n (sl z vbool l) = true := below_sl fun _ => rfl
end Go.Z
