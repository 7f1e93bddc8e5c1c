/- Chapter 10. -/
import Derived.Test.YtimdocpnkimlfaaGreatDoorV9
import Derived.Test.YtimdocpnkimlfaaGreatDoorCM
set_option linter.unusedVariables false
set_option linter.unusedSimpArgs false
set_option maxRecDepth 100000
set_option maxHeartbeats 4000000
namespace Go.Z
open Go Go.Abs Go.W
noncomputable def IQ (v1:fW×Int×Int)(v12:(Option (List nR))×Bool)(s0:Int×(List (List UInt8))):Option ((Int×(List (List UInt8)))⊕((Int×(List (List UInt8))))):=
 cond (decide (s0.1<((v12.1.getD []).length:Int)))
  (qe (jn (v12.1.getD []) s0.1) fun gE=>
  qe (ZV s0.2 gE.name) fun v31=>
  qe (ZV v31 gE.partner) fun iU=>
  some (.inl (qh .i64 (s0.1+1),iU)))
  (some (.inr (s0.1,s0.2)))
end Go.Z
