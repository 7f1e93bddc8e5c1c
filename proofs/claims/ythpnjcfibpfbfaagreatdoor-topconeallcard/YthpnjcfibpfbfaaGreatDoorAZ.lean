/- The examples of the law TopConeAll return what the document says. -/
import Derived.Test.YthpnjcfibpfbfaaGreatDoorAW
import Derived.Test.YthpnjcfibpfbfaaGreatDoorCA
set_option linter.unusedVariables false
set_option linter.unusedSimpArgs false
set_option maxRecDepth 100000
namespace Go.Z
open Go Go.Abs Go.Proofs
theorem qww:qd prA (zy prA 1000) 24 []=some (.bool true,false):=by kernel_rfl
theorem qv9:IsoCall Tryz.prog 24 [] (.bool true) false:=qcq okA qww
end Go.Z
namespace Go.Z
open Go Go.Abs Go.Proofs
def tAw:List AVal→Option (AVal×Bool)
 | []=>some (.bool true,false)
 |_=>none
def qrt:qff:=fun k=>bif Nat.beq k 24 then some tAw else none
def opZ:Nat→Bool:=fun k=>Nat.beq k 4
noncomputable def prZ:je:=qah pr qrt opZ
theorem okZ:ProgOk Tryz.prog prZ:=qv2 okPr (by
 intro k f hf
 simp only[qrt,Bool.cond_eq_ite]at hf
 split at hf
 ·next hb=>
  cases hf
  obtain rfl:=Nat.eq_of_beq_eq_true hb
  refine⟨qda (k:=24) (by kernel_rfl),fun args v o h _ _=>?_⟩
  cases args with
  |nil=>cases h;exact qv9
  |cons a l=>cases h
 ·cases hf)
theorem atZ {k:Nat}(ho:opZ k=false)(hm:qrt k=none){args:List AVal}{v:AVal}{o:Bool}(h:qd pr (X pr) k args=some (v,o))(hv:below 0 v=true):qd prZ (X prZ) k args=some (v,o):=qra ho hm h hv
def E24:Option Bool:=some true
theorem Q24 {r}(h:E24=some r):qd prZ (X prZ) 24 []=some (.bool r,false):=by
 cases h
 exact qrs (f:=tAw) rfl rfl rfl rfl
end Go.Z
