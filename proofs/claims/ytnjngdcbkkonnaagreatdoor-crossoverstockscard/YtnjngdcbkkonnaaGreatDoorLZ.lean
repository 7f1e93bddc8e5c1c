/-
  The program with the result of the fixed examples.
-/
import Derived.Test.YtnjngdcbkkonnaaGreatDoorA2
import Derived.Test.YtnjngdcbkkonnaaGreatDoorTK
set_option linter.unusedVariables false
set_option linter.unusedSimpArgs false
set_option maxRecDepth 100000
namespace Go.Z
open Go Go.Abs Go.Proofs
def tAw:List AVal→Option (AVal × Bool)
 | []=>some (.bool true,false)
 | _=>none
def E16:Option Bool:=some true
end Go.Z
/-
 The program with the fixed examples' result,in which the takes are known; the laws are open.
-/
namespace Go.Z
open Go Go.Abs Go.Proofs
def opY (k:Nat):Bool:=[3,4,5,6,7,8,9,10,11,12,13,14,15].any (Nat.beq k)
def qwx:qd2:=fun k=>bif Nat.beq k 16 then some tAw else none
noncomputable def prY:jj:=kr prT qwx opY
theorem okY:ProgOk Tryz.prog prY:=qnl okT (by
 intro k f hf
 simp only [qwx,Bool.cond_eq_ite] at hf
 split at hf
 ·next hb=>
  cases hf
  obtain rfl:=Nat.eq_of_beq_eq_true hb
  refine ⟨qap (k:=16) (by kernel_rfl),fun args v o h _ _=>?_⟩
  cases args with
  | nil=>cases h; exact q0s
  | cons a l=>cases h
 ·cases hf)
theorem atY {k:Nat} (ho:opY k=false) (hm:qwx k=none) {args:List AVal} {v:AVal} {o:Bool} (h:qd prT (X prT) k args=some (v,o)) (hv:Abs.below 0 v=true):qd prY (X prY) k args=some (v,o):=qog ho hm h hv
theorem Y16 {r} (h:E16=some r):qd prY (X prY) 16 []=some (.bool r,false):=by
 cases h
 exact qjb (f:=tAw) rfl rfl rfl rfl
end Go.Z
