/- The functions that hand back a new map. -/
import Derived.Test.YthpnjcfibpfbfaaGreatDoorZC
set_option linter.unusedVariables false
set_option linter.unusedSimpArgs false
set_option maxRecDepth 100000
namespace Go.Z
open Go Go.Abs
def ji:List (AVal×AVal):=[((.str [98,108,111,99,107]),(.agg [(.str [116,114,97,112]),(.bool true),(.fn (.func 153) [] [])])),((.str [115,101,114,105,101,115]),(.agg [(.str [115,104,117,110,116]),(.bool false),(.fn (.func 154) [] [])])),((.str [115,104,117,110,116]),(.agg [(.str [115,101,114,105,101,115]),(.bool false),(.fn (.func 155) [] [])])),((.str [116,114,97,112]),(.agg [(.str [98,108,111,99,107]),(.bool true),(.fn (.func 156) [] [])]))]
def qs2:qvc:=fun k=>bif Nat.beq k 129 then some ji else none
def pr:je:=tree.prog (fun _=>none) qs2
theorem qte:jq (tree.prog fun _=>none) (zy (tree.prog fun _=>none) 1000) 129 [] []=some (.map 0,false,[.map ji]):=by kernel_rfl
theorem okM {P:Program}(h:ProgOk P (tree.prog fun _=>none)):ProgOk P pr where
 fn:=h.fn
 prim:=h.prim
 mixed:=h.mixed
 maps:=by
  intro k es hk
  simp only[pr,FTree.prog,qs2,Bool.cond_eq_ite]at hk
  split at hk
  ·next hb=>
   cases hk
   rw[Nat.eq_of_beq_eq_true hb]
   exact qru h qte rfl rfl
  ·cases hk
end Go.Z
