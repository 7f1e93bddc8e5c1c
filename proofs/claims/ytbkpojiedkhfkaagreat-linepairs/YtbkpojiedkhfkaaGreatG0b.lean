/-
  Comparisons of structs.
-/
import Derived.Test.YtbkpojiedkhfkaaGreatG0
import Derived.Test.YtbkpojiedkhfkaaGreatL14
set_option linter.unusedVariables false
set_option linter.unusedSimpArgs false
set_option linter.unusedSimpArgs false
namespace Go.Z
open Go Go.Abs
@[go_sem] theorem eqs2q {h : Heap} {a b c d : Int} : eqsR [.int, .int] true h (some (.agg [.int .i64 a, .int .i64 b])) (some (.agg [.int .i64 c, .int .i64 d])) = some ⟨.bool (!(decide (a = c) && decide (b = d))), false, none, h⟩ := by
  show (match eqCells [.int, .int] [.int .i64 a, .int .i64 b] [.int .i64 c, .int .i64 d] with | some t => val h (.bool (bif true then !t else t)) | none => none) = _
  have : eqCells [.int, .int] [.int .i64 a, .int .i64 b] [.int .i64 c, .int .i64 d] = some (decide (a = c) && decide (b = d)) := by
    have e : ∀ x y : Int, (x == y) = decide (x = y) := fun x y => by by_cases h : x = y <;> simp [h]
    simp only [eqCells, eqCell, e, decide_true, cond_true]
    by_cases h1 : a = c <;> by_cases h2 : b = d <;> simp [h1, h2]
  rw [this]
  rfl
end Go.Z
