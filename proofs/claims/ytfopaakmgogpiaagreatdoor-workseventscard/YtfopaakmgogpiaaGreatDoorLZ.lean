/- The program with the result of the fixed examples. -/
import Derived.Test.YtfopaakmgogpiaaGreatDoorG0
import Derived.Test.YtfopaakmgogpiaaGreatDoorAZ
set_option linter.unusedVariables false
set_option linter.unusedSimpArgs false
set_option maxRecDepth 100000
namespace Go.Z
open Go Go.Abs Go.Proofs
def tAw:List AVal→Option (AVal × Bool)
 | []=>some (.bool true,false)
 | _=>none
def q56:qig:=fun k=>bif Nat.beq k 8 then some tAw else none
def opZ:Nat→Bool:=fun k=>Nat.ble 3 k && Nat.ble k 6
noncomputable def prZ:jw:=qcy pr q56 opZ
theorem okZ:ProgOk Tryz.prog prZ:=jed (okM ok0) (by
 intro k f hf
 simp only [q56,Bool.cond_eq_ite] at hf
 split at hf
 ·next hb=>
  cases hf
  obtain rfl:=Nat.eq_of_beq_eq_true hb
  refine ⟨qaq (k:=8) (by kernel_rfl),fun args v o h _ _=>?_⟩
  cases args with
  | nil=>cases h; exact jff
  | cons a l=>cases h
 ·cases hf)
theorem atZ {k:Nat} (ho:opZ k=false) (hm:q56 k=none) {args:List AVal} {v:AVal} {o:Bool} (h:qc pr (X pr) k args=some (v,o)) (hv:below 0 v=true):qc prZ (X prZ) k args=some (v,o):=q7w ho hm h hv
def E8:Option Bool:=some true
theorem Q8 {r} (h:E8=some r):qc prZ (X prZ) 8 []=some (.bool r,false):=by
 cases h
 exact q66 (f:=tAw) rfl rfl rfl rfl
end Go.Z
