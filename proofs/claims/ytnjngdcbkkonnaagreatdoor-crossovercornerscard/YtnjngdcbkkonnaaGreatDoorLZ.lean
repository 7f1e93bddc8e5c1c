/- The program with the result of the fixed examples. -/
import Derived.Test.YtnjngdcbkkonnaaGreatDoorA2
set_option linter.unusedVariables false
set_option linter.unusedSimpArgs false
set_option maxRecDepth 100000
namespace Go.Z
open Go Go.Abs Go.Proofs
def tAw:List AVal→Option (AVal × Bool)
 | []=>some (.bool true,false)
 | _=>none
def q1s:qg8:=fun k=>bif Nat.beq k 16 then some tAw else none
def opZ:Nat→Bool:=fun k=>Nat.ble 3 k && Nat.ble k 15
noncomputable def prZ:ju:=qa1 prE q1s opZ
theorem okZ:ProgOk Tryz.prog prZ:=qyd okE (by
 intro k f hf
 simp only [q1s,Bool.cond_eq_ite] at hf
 split at hf
 ·next hb=>
  cases hf
  obtain rfl:=Nat.eq_of_beq_eq_true hb
  refine ⟨qcz (k:=16) (by kernel_rfl),fun args v o h _ _=>?_⟩
  cases args with
  | nil=>cases h; exact q41
  | cons a l=>cases h
 ·cases hf)
theorem atZ {k:Nat} (ho:opZ k=false) (hm:q1s k=none) {args:List AVal} {v:AVal} {o:Bool} (h:qc prE (X prE) k args=some (v,o)) (hv:below 0 v=true):qc prZ (X prZ) k args=some (v,o):=q2p ho hm h hv
def E16:Option Bool:=some true
theorem Q16 {r} (h:E16=some r):qc prZ (X prZ) 16 []=some (.bool r,false):=by
 cases h
 exact q22 (f:=tAw) rfl rfl rfl rfl
@[go_sem] theorem jkv {n:Nat} {x:AVal}:Abs.below n (.vptr x)=Abs.below n x:=by simp only [Abs.below]
end Go.Z
