/-
  LineProofs: what the product proves and checks: functions that mirror the runs, and the runs (printed by walk.py).
-/
import Derived.Test.YtbkpojiedkhfkaaGreatV3
import Derived.Test.YtbkpojiedkhfkaaGreatV1
set_option linter.unusedVariables false
set_option linter.unusedSimpArgs false
set_option maxRecDepth 100000
set_option maxHeartbeats 4000000
namespace Go.Z
open Go Go.Abs
end Go.Z
/-
 LineProofs: the product's search for a set: the sets one after another (a range over a function),and Prove.
-/
namespace Go.Z
open Go Go.Abs
end Go.Z
/-
 LineProofs: Prove: its run.
-/
namespace Go.Z
open Go Go.Abs
section
variable {o:Option (List GUnit)} {below:Int} {R:AVal} {E n size n1 i:Int}
end
end Go.Z
