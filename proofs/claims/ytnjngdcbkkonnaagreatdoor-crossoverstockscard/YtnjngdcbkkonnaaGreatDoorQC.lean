/-
  Chapter 4: corridors, and whether a ladder keeps a band; faults: both sides.
-/
import Derived.Test.YtnjngdcbkkonnaaGreatDoorA8
import Derived.Test.YtnjngdcbkkonnaaGreatDoorPQ
set_option linter.unusedVariables false
set_option linter.unusedSimpArgs false
set_option maxRecDepth 100000
set_option maxHeartbeats 1000000
namespace Go.Z
open Go Go.Abs
theorem q2o {a b:Int} (h:j5 [a,b]=0):a=0∧b=0:=by
 have:=qbl.1 h
 exact ⟨this a (by simp),this b (by simp)⟩
end Go.Z
/-
 Chapter 4: faults of a choice: the first one,and whether a told one is one; both sides.
-/
namespace Go.Z
open Go Go.Abs
def eqE (x y:GEl):Bool:=decide (x.kind=y.kind) && decide (x.a=y.a) && decide (x.b=y.b)
def qdk (l:List GEl) (x:GEl):Bool:=l.any fun e=>eqE e x
end Go.Z
