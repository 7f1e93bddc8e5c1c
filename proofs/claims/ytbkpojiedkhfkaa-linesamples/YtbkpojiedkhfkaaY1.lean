/-
  The line's program for the abstract machine; the law's fixed examples by their result.
-/
import Derived.Test.YtbkpojiedkhfkaaZC
import Derived.Test.YtbkpojiedkhfkaaG0
set_option linter.unusedVariables false
set_option linter.unusedSimpArgs false
set_option maxRecDepth 100000
set_option linter.unusedSimpArgs false
namespace Go.Z
open Go Go.Abs
def awakeT : List AVal → Option (AVal × Bool)
  | [] => some (.bool true, false)
  | _ => none
def pr : AProg := tree.prog (fun k => bif Nat.beq k 4 then some awakeT else none)
noncomputable def E4 : Option Bool := some true
theorem WE4 {r} (h : E4 = some r) : callIso pr (X pr) 4 [] = some (.bool r, false) := by cases h; rfl
end Go.Z
