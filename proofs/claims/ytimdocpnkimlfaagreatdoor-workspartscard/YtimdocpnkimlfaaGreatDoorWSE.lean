/- What is undone, and what is held and freed. -/
import Derived.Test.YtimdocpnkimlfaaGreatDoorWS
set_option linter.unusedVariables false
set_option linter.unusedSimpArgs false
namespace Go.W
theorem jnt {wrap:Int→Int}{l:List ek}{h:kl}{e:ek}(hr:run wrap l=.ok h)(hn:l.length<1000):run wrap (l++[e])=if zf e≠0 then .error ((l.length:Int)+1,zf e)else match accept wrap h ((l.length:Int)+1) e with
  | .error x=>.error ((l.length:Int)+1,x)
  | .ok h'=>.ok h':=by
 unfold run at hr ⊢
 rw[if_neg (by omega)]at hr
 rw[if_neg (by rw[List.length_append,List.length_singleton];omega),ZF,hr]
 simp only[Nat.zero_add,yp]<;>rfl
end Go.W
