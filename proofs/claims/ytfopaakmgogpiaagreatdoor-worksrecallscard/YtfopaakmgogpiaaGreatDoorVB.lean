/- Chapter 10. -/
import Derived.Test.YtfopaakmgogpiaaGreatDoorV9
set_option linter.unusedVariables false
set_option linter.unusedSimpArgs false
set_option maxRecDepth 100000
set_option maxHeartbeats 4000000
namespace Go.Z
open Go Go.Abs Go.W
def nO:Option HV→qa
 |none=>.agg [Nl,Nl,.au 4 0 1]
 |some v=>.agg [.au 7 v.ve v.ev.length,.au 5 v.vc v.lc,.au 4 v.vs v.ls]
end Go.Z
namespace Go.Z
open Go Go.Abs Go.W
def iK:Option HV→qa
 |none=>.agg [Nl,Nl,.au 3 0 1]
 |some v=>.agg [.au 6 v.ve v.ev.length,.au 4 v.vc v.lc,.au 3 v.vs v.ls]
end Go.Z
