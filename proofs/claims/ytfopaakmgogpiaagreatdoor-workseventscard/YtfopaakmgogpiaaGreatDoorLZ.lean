/- The program with the result of the fixed examples. -/
import Derived.Test.YtfopaakmgogpiaaGreatDoorG0
import Derived.Test.YtfopaakmgogpiaaGreatDoorAZ
set_option linter.unusedVariables false
set_option linter.unusedSimpArgs false
set_option maxRecDepth 100000
namespace Go.Z
open Go Go.Abs Go.Proofs
def tAw:List qa→Option (qa×Bool)
 | []=>some (.bool true,false)
 |_=>none
def jah:qjx:=fun k=>bif Nat.beq k 8 then some tAw else none
def opZ:Nat→Bool:=fun k=>Nat.ble 3 k&&Nat.ble k 6
noncomputable def prZ:qt:=qd9 pr jah opZ
theorem okZ:qx Tryz.prog prZ:=jhb (okM ok0) (by
 intro k f hf
 simp only[jah,Bool.cond_eq_ite]at hf
 split at hf
 ·next hb=>
  cases hf
  obtain rfl:=Nat.eq_of_beq_eq_true hb
  refine⟨qb1 (k:=8) (by kernel_rfl),fun args v o h _ _=>?_⟩
  cases args with
  |nil=>cases h;exact jh6
  |cons a l=>cases h
 ·cases hf)
theorem atZ {k:Nat}(ho:opZ k=false)(hm:jah k=none){args:List qa}{v:qa}{o:Bool}(h:jy pr (X pr) k args=some (v,o))(hv:below 0 v=true):jy prZ (X prZ) k args=some (v,o):=q9r ho hm h hv
def E8:Option Bool:=some true
theorem Q8 {r}(h:E8=some r):jy prZ (X prZ) 8 []=some (.bool r,false):=by
 cases h
 exact q7q (f:=tAw) rfl rfl rfl rfl
end Go.Z
