/- The program with the result of the fixed examples. -/
import Derived.Test.YtfopaakmgogpiaaGreatDoorG0
import Derived.Test.YtfopaakmgogpiaaGreatDoorAZ
set_option linter.unusedVariables false
set_option linter.unusedSimpArgs false
set_option maxRecDepth 100000
namespace Go.Z
open Go Go.Abs Go.Proofs
def tAw:List qa→Option (qa×Bool)
 | []=>some (.bool true,false)
 |_=>none
def V8:vh:=fun k=>bif Nat.beq k 8 then some tAw else none
def opZ:Nat→Bool:=fun k=>Nat.ble 3 k&&Nat.ble k 6
noncomputable def gp:qt:=mb pr V8 opZ
theorem okZ:qx Tryz.prog gp:=jds (okM ok0) (by
 intro k f hf
 simp only[V8,Bool.cond_eq_ite]at hf
 split at hf
 ·next hb=>
  cases hf
  obtain rfl:=Nat.eq_of_beq_eq_true hb
  refine⟨tU (k:=8) (by kernel_rfl),fun args v o h _ _=>?_⟩
  cases args with
  |nil=>cases h;exact jeh
  |cons a l=>cases h
 ·cases hf)
theorem vW {k:Nat}(ho:opZ k=false)(hm:V8 k=none){args:List qa}{v:qa}{o:Bool}(h:jy pr (X pr) k args=some (v,o))(hv:below 0 v=true):jy gp (X gp) k args=some (v,o):=q8b ho hm h hv
def E8:Option Bool:=some true
theorem Q8 {r}(h:E8=some r):jy gp (X gp) 8 []=some (.bool r,false):=by
 cases h
 exact q7j (f:=tAw) rfl rfl rfl rfl
end Go.Z
