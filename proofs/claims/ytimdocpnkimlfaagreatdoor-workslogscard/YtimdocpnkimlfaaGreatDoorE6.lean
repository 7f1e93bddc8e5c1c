/- Chapter 10, plain. -/
import Derived.Test.YtimdocpnkimlfaaGreatDoorE1
set_option linter.unusedVariables false
set_option linter.unusedSimpArgs false
set_option maxRecDepth 100000
namespace Go.Z
open Go Go.Abs Go.W
abbrev BB:Nat:=1000000
variable {r:fW}{e:aT}
theorem Z1 {a lo hi}:f60 a lo hi=some (if a<lo∨hi<a then 3 else 0):=by
 unfold f60
 by_cases h1:a<lo
 ·simp[h1,vY,qe]
 ·by_cases h2:hi<a<;>simp[h1,h2,vY,qe]
end Go.Z
