/- Chapter 10. -/
import Derived.Test.YtimdocpnkimlfaaGreatDoorV9
set_option linter.unusedVariables false
set_option linter.unusedSimpArgs false
set_option maxRecDepth 100000
set_option maxHeartbeats 4000000
namespace Go.Z
open Go Go.Abs Go.W
def mI:Option HV→AVal
 |none=>.agg [Nl,Nl,.aw 4 0 1]
 |some v=>.agg [.aw 7 v.ve v.ev.length,.aw 5 v.vc v.lc,.aw 4 v.vs v.ls]
end Go.Z
