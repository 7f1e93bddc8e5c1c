/- Chapter 10. -/
import Derived.Test.YtimdocpnkimlfaaGreatDoorV9
set_option linter.unusedVariables false
set_option linter.unusedSimpArgs false
set_option maxRecDepth 100000
set_option maxHeartbeats 4000000
namespace Go.Z
open Go Go.Abs Go.W
def mb:Option HV→AVal
 |none=>.agg [Nl,Nl,.aA 4 0 1]
 |some v=>.agg [.aA 7 v.ve v.ev.length,.aA 5 v.vc v.lc,.aA 4 v.vs v.ls]
end Go.Z
