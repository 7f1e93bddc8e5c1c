/-
  What the line's functions compute, and the small functions of the checks: their runs.
-/
import Derived.Test.YtbkpojiedkhfkaaZC
import Derived.Test.YtbkpojiedkhfkaaAbsJ
set_option linter.unusedVariables false
set_option linter.unusedSimpArgs false
set_option maxRecDepth 100000
set_option linter.unusedSimpArgs false
namespace Go.Z
open Go Go.Abs
theorem drop_cons {α : Type} {l : List α} {i : Nat} {x : α} (hx : l[i]? = some x) : l.drop i = x :: l.drop (i + 1) := by
  obtain ⟨h1, h2⟩ := List.getElem?_eq_some_iff.1 hx
  rw [List.drop_eq_getElem_cons h1, h2]
def checkRange (n lo hi : Int) : Int := if n < lo then 3 else if hi < n then 3 else 0
def whenE (b : Bool) (e : Int) : Int := if b then e else 0
def firstNZ : List Int → Int
  | [] => 0
  | x :: l => if x = 0 then firstNZ l else x
end Go.Z
