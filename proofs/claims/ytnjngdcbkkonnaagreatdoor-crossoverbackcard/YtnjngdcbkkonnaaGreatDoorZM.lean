/- The functions that hand back a new map. -/
import Derived.Test.YtnjngdcbkkonnaaGreatDoorZC
import Derived.Test.YtnjngdcbkkonnaaGreatDoorAbsH
import Derived.KernelRfl
set_option linter.unusedVariables false
set_option linter.unusedSimpArgs false
set_option maxRecDepth 100000
namespace Go.Z
open Go Go.Abs
def j9:List (AVal × AVal):=[((.str [98,108,111,99,107]),(.agg [(.str [116,114,97,112]),(.bool true),(.fn (.func 218) [] [])])),((.str [115,101,114,105,101,115]),(.agg [(.str [115,104,117,110,116]),(.bool false),(.fn (.func 219) [] [])])),((.str [115,104,117,110,116]),(.agg [(.str [115,101,114,105,101,115]),(.bool false),(.fn (.func 220) [] [])])),((.str [116,114,97,112]),(.agg [(.str [98,108,111,99,107]),(.bool true),(.fn (.func 221) [] [])]))]
def qq3:qx1:=fun k=>bif Nat.beq k 193 then some j9 else none
def pr:jk:=tree.prog (fun _=>none) qq3
theorem qyu:jc (tree.prog fun _=>none) (j6 (tree.prog fun _=>none) 1000) 193 [] []=some (.map 0,false,[.map j9]):=by kernel_rfl
theorem okM {P:Program} (h:ProgOk P (tree.prog fun _=>none)):ProgOk P pr where
 fn:=h.fn
 prim:=h.prim
 mixed:=h.mixed
 maps:=by
  intro k es hk
  simp only [pr,FTree.prog,qq3,Bool.cond_eq_ite] at hk
  split at hk
  ·next hb=>
   cases hk
   rw [Nat.eq_of_beq_eq_true hb]
   exact qw7 h qyu rfl rfl
  ·cases hk
end Go.Z
