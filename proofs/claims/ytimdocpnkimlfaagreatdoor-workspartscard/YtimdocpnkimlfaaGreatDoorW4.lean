/- Chapter 10. -/
import Derived.Test.YtimdocpnkimlfaaGreatDoorW1
set_option linter.unusedVariables false
set_option linter.unusedSimpArgs false
set_option maxRecDepth 100000
set_option maxHeartbeats 4000000
namespace Go.Z
open Go Go.Abs Go.W
noncomputable def f88 (a0:Int)(a1:Int)(a2:Int):Option Bool:=
 cond (decide (a0<a1))
  (some true)
  (some (decide (a2<a0)))
theorem Zf {a0 a1 a2 r}(h:f88 a0 a1 a2=some r):qc pr (X pr) 88 [Iv a0,Iv a1,Iv a2]=some (.bool r,false):=by
 unfold f88 at h
 refine zh KE ?_
 repeat' first|(replace h:=qd h;rcases h with⟨g,h⟩|⟨g,h⟩)
 all_goals (cases h<;>(simp only[go_sem,seval,KE, *];exact⟨_,rfl⟩))
end Go.Z
