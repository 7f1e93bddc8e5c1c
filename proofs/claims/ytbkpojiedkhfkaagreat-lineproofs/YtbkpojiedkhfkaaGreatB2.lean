/-
  Work and benches: functions that mirror the runs, and the runs (printed by walk.py).
-/
import Derived.Test.YtbkpojiedkhfkaaGreatB1
import Derived.Test.YtbkpojiedkhfkaaGreatG0m
set_option linter.unusedVariables false
set_option linter.unusedSimpArgs false
set_option maxRecDepth 100000
set_option linter.unusedSimpArgs false
set_option linter.unusedVariables false
set_option maxHeartbeats 4000000
namespace Go.Z
open Go Go.Abs
end Go.Z
/-
  The best schedule: the search that leaves out what cannot be better, and the one that tries all, find the same.
-/
set_option maxRecDepth 100000
set_option linter.unusedSimpArgs false
set_option linter.unusedVariables false
namespace Go.Z
open Go Go.Abs
end Go.Z
/-
  The best schedule: both searches.
-/
set_option maxRecDepth 100000
set_option linter.unusedSimpArgs false
set_option linter.unusedVariables false
namespace Go.Z
open Go Go.Abs
theorem ap_nil {α : Type} (l : List α) (h : l.length ≤ 1073741824) : apO (some []) l = some (some l) := by
  unfold apO apS
  simp [h]
theorem ap_one {α : Type} (l : List α) (x : α) (h : l.length + 1 ≤ 1073741824) : apO (some l) [x] = some (some (l ++ [x])) := by
  unfold apO apS
  simp [h]
end Go.Z
