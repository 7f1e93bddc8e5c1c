/- Maps from texts to true. -/
import Derived.Test.YtimdocpnkimlfaaGreatDoorCA
set_option linter.unusedVariables false
set_option linter.unusedSimpArgs false
set_option maxRecDepth 100000
namespace Go.Z
open Go Go.Abs
def Qy (l:List (List UInt8))(s:List UInt8):Bool:=decide (s∈l)
def ZV (l:List (List UInt8))(s:List UInt8):Option (List (List UInt8)):=if Qy l s then some l else if l.length≤1073741824 then some (l++[s])else none
end Go.Z
