/-
  A mask in a box.
-/
import Derived.Test.YtbkpojiedkhfkaaGreatL9
set_option linter.unusedVariables false
set_option linter.unusedSimpArgs false
namespace Go.Z
open Go Go.Abs
abbrev mBox (m : GMask) : ABox := .cells [(sl 1 vint m.least, false), (sl 1 vint m.most, false)]
theorem maskE_len {m : GMask} (h : maskE m = 0) : (m.least.getD []).length = (m.most.getD []).length := by
  unfold maskE at h
  by_cases hz : maskA m = 0
  · exact maskA_len hz
  · rw [if_neg hz] at h; exact absurd h hz
end Go.Z
