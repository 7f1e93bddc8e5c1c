/- The functions that hand back a new map. -/
import Derived.Test.YtnjngdcbkkonnaaGreatDoorZC
import Derived.Test.YtnjngdcbkkonnaaGreatDoorAbsH
import Derived.KernelRfl
set_option linter.unusedVariables false
set_option linter.unusedSimpArgs false
set_option maxRecDepth 100000
namespace Go.Z
open Go Go.Abs
def qan:List (qa×qa):=[((.str [98,108,111,99,107]),(.agg [(.str [116,114,97,112]),(.bool true),(.fn (.func 218) [] [])])),((.str [115,101,114,105,101,115]),(.agg [(.str [115,104,117,110,116]),(.bool false),(.fn (.func 219) [] [])])),((.str [115,104,117,110,116]),(.agg [(.str [115,101,114,105,101,115]),(.bool false),(.fn (.func 220) [] [])])),((.str [116,114,97,112]),(.agg [(.str [98,108,111,99,107]),(.bool true),(.fn (.func 221) [] [])]))]
def q1w:q9f:=fun k=>bif Nat.beq k 193 then some qan else none
def pr:qo:=tree.prog (fun _=>none) q1w
theorem jdc:ye (tree.prog fun _=>none) (kx (tree.prog fun _=>none) 1000) 193 [] []=some (.map 0,false,[.map qan]):=by kernel_rfl
theorem okM {P:Program}(h:qu P (tree.prog fun _=>none)):qu P pr where
 fn:=h.fn
 prim:=h.prim
 mixed:=h.mixed
 maps:=by
  intro k es hk
  simp only[pr,qz.prog,q1w,Bool.cond_eq_ite]at hk
  split at hk
  ·next hb=>
   cases hk
   rw[Nat.eq_of_beq_eq_true hb]
   exact q9k h jdc rfl rfl
  ·cases hk
end Go.Z
