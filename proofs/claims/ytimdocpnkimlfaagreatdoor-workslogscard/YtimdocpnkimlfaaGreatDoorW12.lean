/- Chapter 10. -/
import Derived.Test.YtimdocpnkimlfaaGreatDoorW1
set_option linter.unusedVariables false
set_option linter.unusedSimpArgs false
set_option maxRecDepth 100000
set_option maxHeartbeats 4000000
namespace Go.Z
open Go Go.Abs Go.W
noncomputable def f47 (a0:aT):Option Int:=
 qe (f60 a0.number 1 1000) fun v1=>
 qe (f48 (!(pi a0.kind)) 13) fun v3=>
 qe (f48 (!(decide (((a0.names.getD []).length:Int)=((ph a0.kind).length:Int))&&decide (((a0.values.getD []).length:Int)=(su a0.kind)))) 2) fun v5=>
 qe (f46 (some [v1,v3,v5])) fun v7=>
 cond (decide (v7=0))
  (qe (ER a0.names) fun v10=>
  qe (ET a0.values) fun v12=>
  qe (f46 v10.1) fun fX=>
  qe (f46 v12.1) fun v16=>
  qe (f48 (!decide (a0.text=[])) 1) fun fj=>
  qe (f46 (some [fX,v16,fj])) fun v20=>
  some v20)
  (some v7)
theorem W47 {a0 r}(h:f47 a0=some r):ae pr (X pr) 47 [aE a0]=some (Iv r,false):=by
 unfold f47 at h
 refine ll F5 ?_
 repeat' first|(replace h:=qa h;obtain⟨d,g,h⟩:=h; (with_reducible first|replace g:=W60 g|replace g:=Ja g|replace g:=W46 g|replace g:=j1t g|replace g:=jyb g|skip);try dsimp only[np,j10,List.map,qx,qv,tP,vV,vW,Qq,bX,li,lj,vU,aE,aR,aU,aL,aP,aD]at g)|(replace h:=qc h;rcases h with⟨g,h⟩|⟨g,h⟩)
 all_goals (cases h<;>(simp only[go_sem,seval,F5,BL, *];exact⟨_,rfl⟩))
end Go.Z
