/-
  The program with the result of the fixed examples.
-/
import Derived.Test.YtnjngdcbkkonnaaGreatDoorA2
set_option linter.unusedVariables false
set_option linter.unusedSimpArgs false
set_option maxRecDepth 100000
namespace Go.Z
open Go Go.Abs Go.Proofs
def tAw:List AVal→Option (AVal × Bool)
 | []=>some (.bool true,false)
 | _=>none
def q0o:qgt:=fun k=>bif Nat.beq k 16 then some tAw else none
def opZ:Nat→Bool:=fun k=>Nat.ble 3 k && Nat.ble k 15
noncomputable def prZ:js:=qat prE q0o opZ
theorem okZ:ProgOk Tryz.prog prZ:=qw0 okE (by
 intro k f hf
 simp only [q0o,Bool.cond_eq_ite] at hf
 split at hf
 ·next hb=>
  cases hf
  obtain rfl:=Nat.eq_of_beq_eq_true hb
  refine ⟨qcp (k:=16) (by kernel_rfl),fun args v o h _ _=>?_⟩
  cases args with
  | nil=>cases h; exact q3d
  | cons a l=>cases h
 ·cases hf)
theorem atZ {k:Nat} (ho:opZ k=false) (hm:q0o k=none) {args:List AVal} {v:AVal} {o:Bool} (h:qc prE (X prE) k args=some (v,o)) (hv:below 0 v=true):qc prZ (X prZ) k args=some (v,o):=q1n ho hm h hv
def E16:Option Bool:=some true
theorem Q16 {r} (h:E16=some r):qc prZ (X prZ) 16 []=some (.bool r,false):=by
 cases h
 exact q1r (f:=tAw) rfl rfl rfl rfl
end Go.Z
