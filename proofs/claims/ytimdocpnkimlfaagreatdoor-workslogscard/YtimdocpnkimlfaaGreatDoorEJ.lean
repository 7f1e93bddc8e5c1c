/- Chapter 10, plain. -/
import Derived.Test.YtimdocpnkimlfaaGreatDoorEF
set_option linter.unusedVariables false
set_option linter.unusedSimpArgs false
set_option maxRecDepth 100000
set_option maxHeartbeats 4000000
namespace Go.Z
open Go Go.Abs Go.W
theorem j2w {f:Int→Option (Int⊕(Unit⊕Int))}{n}(hn:n≤SM)(dm:f (n:Int)=some (.inr (.inr (n:Int))))(h:∀i:Nat,i<n→f (i:Int)=some (.inl (qh .i64 ((i:Int)+1)))):∃d,bq f 0=some (.inr d):=
 ⟨_,q8t n f dm fun i hi=>by rw[h i hi,yi (by unfold SM at hn;omega)]⟩
theorem jaa {α:Type}{l:List α}{i}(h:i<l.length):∃x,l[i]?=some x:=⟨_,List.getElem?_eq_getElem h⟩
theorem ob {α β:Type}{x:α}{f:α→Option β}:qe (some x) f=f x:=rfl
end Go.Z
