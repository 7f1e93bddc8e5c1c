/- The functions that hand back a new map. -/
import Derived.Test.YtlhfdilpecnjeaaGreatDoorZC
set_option linter.all false
set_option maxRecDepth 100000
noncomputable section
open Nat renaming beq->I,eq_of_beq_eq_true->En
namespace Go.Z
open Go Go.Abs
def jc:List (AVal×AVal):=[((.str [108,111,116]),(.agg [(.str [45,45]),(.int .i64 2),(.fn (.func 106) [] [])])),((.str [112,114,111,100,117,99,116]),(.agg [(.str [45]),(.int .i64 1),(.fn (.func 107) [] [])])),((.str [110,101,101,100]),(.agg [(.str [112,45]),(.int .i64 2),(.fn (.func 108) [] [])])),((.str [116,101,115,116]),(.agg [(.str [112,45]),(.int .i64 3),(.fn (.func 109) [] [])])),((.str [105,115,115,117,101]),(.agg [(.str [112]),(.int .i64 1),(.fn (.func 110) [] [])])),((.str [98,117,105,108,100]),(.agg [(.str [45,112]),(.int .i64 1),(.fn (.func 111) [] [])])),((.str [117,115,101]),(.agg [(.str [117,108]),(.int .i64 2),(.fn (.func 112) [] [])])),((.str [109,101,97,115,117,114,101]),(.agg [(.str [117,45]),(.int .i64 2),(.fn (.func 113) [] [])])),((.str [117,112,100,97,116,101]),(.agg [(.str [117]),(.int .i64 1),(.fn (.func 114) [] [])])),((.str [112,97,105,114]),(.agg [(.str [117,117]),(.int .i64 1),(.fn (.func 115) [] [])])),((.str [104,111,108,100]),(.agg [(.str [108]),(.int .i64 1),(.fn (.func 116) [] [])])),((.str [102,114,101,101]),(.agg [(.str [108]),(.int .i64 1),(.fn (.func 117) [] [])])),((.str [115,104,105,112]),(.agg [(.str [117]),(.int .i64 1),(.fn (.func 118) [] [])])),((.str [99,111,109,112,108,97,105,110]),(.agg [(.str [117]),(.int .i64 1),(.fn (.func 119) [] [])])),((.str [117,110,100,111]),(.agg [(.str []),(.int .i64 0),.cx]))]
def jq:List (AVal×AVal):=[((.str [108,111,116,115]),(.agg [(.int .i32 117),(.fn (.func 87) [] [])])),((.str [117,110,105,116,115]),(.agg [(.int .i32 108),(.fn (.func 88) [] [])])),((.str [109,105,115,115,105,110,103]),(.agg [(.int .i32 117),(.fn (.func 90) [] [])])),((.str [115,116,111,99,107]),(.agg [(.int .i32 107),(.fn (.func 92) [] [])])),((.str [118,101,114,115,105,111,110]),(.agg [(.int .i32 112),(.fn (.func 94) [] [])])),((.str [115,104,105,112,112,101,100]),(.agg [(.int .i32 0),(.fn (.func 97) [] [])])),((.str [104,101,108,100]),(.agg [(.int .i32 0),(.fn (.func 99) [] [])]))]
def KN:T3:=fun k=>bif I k 39 then some jc else bif I k 37 then some jq else none
def isS (k:Nat):Bool:=I k 256||I k 19||I k 47||I k 43||I k 211||I k 5
def XW:j8:=tree.prog (fun _=>none) KN
def pr:j8:={ br:=fun k=>bif isS k then none else tree.find k,cD:=fun _=>none,maps:=KN }
theorem jjw {k:Nat}(h:isS k=true):pr.br k=none:=by simp only[pr,h,cond_true]
theorem jm6:ai (tree.prog fun _=>none) (jJ (tree.prog fun _=>none) 1000) 39 [] []=some (.map 0,false,[.map jc]):=by kernel_rfl
theorem jqu:ai (tree.prog fun _=>none) (jJ (tree.prog fun _=>none) 1000) 37 [] []=some (.map 0,false,[.map jq]):=by kernel_rfl
theorem okW {P:Program}(h:b8 P (tree.prog fun _=>none)):b8 P XW where
 fn:=h.fn
 gd:=h.gd
 mixed:=h.mixed
 maps:=by
  intro k es hk;simp only[XW,bP.prog,KN,Bool.cond_eq_ite]at hk;split at hk
  .next hb=>
   cases hk;rw[En hb];exact qzg h jm6 rfl rfl
  split at hk
  .next hb=>
   cases hk;rw[En hb];exact qzg h jqu rfl rfl
  .cases hk
theorem okM {P:Program}(h:b8 P (tree.prog fun _=>none)):b8 P pr where
 fn:=by
  intro k f hf;simp only[pr,Bool.cond_eq_ite]at hf;split at hf
  .cases hf
  .exact h.fn k f hf
 gd:=fun k f h=>by cases h
 mixed:=h.mixed
 maps:=(okW h).maps
end Go.Z
end
