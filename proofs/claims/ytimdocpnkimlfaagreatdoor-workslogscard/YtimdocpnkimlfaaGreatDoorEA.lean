/- Chapter 10, plain. -/
import Derived.Test.YtimdocpnkimlfaaGreatDoorE6
set_option linter.unusedVariables false
set_option linter.unusedSimpArgs false
set_option maxRecDepth 100000
set_option maxHeartbeats 4000000
namespace Go.Z
open Go Go.Abs Go.W
variable {r:fW}{e:aT}
theorem Z2 {a lo hi}:f88 a lo hi=some (decide (a<lo∨hi<a)):=by
 unfold f88
 by_cases h:a<lo
 ·simp[h]
 ·simp[h]
end Go.Z
