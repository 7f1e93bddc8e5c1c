/- The functions that hand back a new map. -/
import Derived.Test.YtoaianfagfampaaGreatDoorZC
set_option linter.all false
set_option maxRecDepth 100000
noncomputable section
open Nat renaming beq->I,eq_of_beq_eq_true->Eb
namespace Go.Z
open Go Go.Abs
def y9:List (AVal×AVal):=[((.str [108,111,116]),(.agg [(.str [45,45]),(.int .i64 2),(.fn (.func 72) [] [])])),((.str [112,114,111,100,117,99,116]),(.agg [(.str [45]),(.int .i64 1),(.fn (.func 73) [] [])])),((.str [110,101,101,100]),(.agg [(.str [112,45]),(.int .i64 2),(.fn (.func 74) [] [])])),((.str [116,101,115,116]),(.agg [(.str [112,45]),(.int .i64 3),(.fn (.func 75) [] [])])),((.str [105,115,115,117,101]),(.agg [(.str [112]),(.int .i64 1),(.fn (.func 76) [] [])])),((.str [98,117,105,108,100]),(.agg [(.str [45,112]),(.int .i64 1),(.fn (.func 77) [] [])])),((.str [117,115,101]),(.agg [(.str [117,108]),(.int .i64 2),(.fn (.func 78) [] [])])),((.str [109,101,97,115,117,114,101]),(.agg [(.str [117,45]),(.int .i64 2),(.fn (.func 79) [] [])])),((.str [117,112,100,97,116,101]),(.agg [(.str [117]),(.int .i64 1),(.fn (.func 80) [] [])])),((.str [112,97,105,114]),(.agg [(.str [117,117]),(.int .i64 1),(.fn (.func 81) [] [])])),((.str [104,111,108,100]),(.agg [(.str [108]),(.int .i64 1),(.fn (.func 82) [] [])])),((.str [102,114,101,101]),(.agg [(.str [108]),(.int .i64 1),(.fn (.func 83) [] [])])),((.str [115,104,105,112]),(.agg [(.str [117]),(.int .i64 1),(.fn (.func 84) [] [])])),((.str [99,111,109,112,108,97,105,110]),(.agg [(.str [117]),(.int .i64 1),(.fn (.func 85) [] [])])),((.str [117,110,100,111]),(.agg [(.str []),(.int .i64 0),.cO]))]
def Gg:List (AVal×AVal):=[((.str [108,111,116,115]),(.agg [(.int .i32 117),(.fn (.func 48) [] [])])),((.str [117,110,105,116,115]),(.agg [(.int .i32 108),(.fn (.func 51) [] [])])),((.str [109,105,115,115,105,110,103]),(.agg [(.int .i32 117),(.fn (.func 53) [] [])])),((.str [115,116,111,99,107]),(.agg [(.int .i32 107),(.fn (.func 55) [] [])])),((.str [118,101,114,115,105,111,110]),(.agg [(.int .i32 112),(.fn (.func 57) [] [])])),((.str [115,104,105,112,112,101,100]),(.agg [(.int .i32 0),(.fn (.func 60) [] [])])),((.str [104,101,108,100]),(.agg [(.int .i32 0),(.fn (.func 65) [] [])]))]
def JF:QU:=fun k=>bif I k 22 then some y9 else bif I k 20 then some Gg else none
def isS (k:Nat):Bool:=I k 235||I k 19||I k 29||I k 26||I k 175
def U0:j8:=tree.prog (fun _=>none) JF
def pr:j8:={ bn:=fun k=>bif isS k then none else tree.find k,di:=fun _=>none,maps:=JF }
theorem jhm {k:Nat}(h:isS k=true):pr.bn k=none:=by simp only[pr,h,cond_true]
theorem jje:ai (tree.prog fun _=>none) (lm (tree.prog fun _=>none) 1000) 22 [] []=some (.map 0,false,[.map y9]):=by kernel_rfl
theorem jjz:ai (tree.prog fun _=>none) (lm (tree.prog fun _=>none) 1000) 20 [] []=some (.map 0,false,[.map Gg]):=by kernel_rfl
theorem okW {P:Program}(h:ct P (tree.prog fun _=>none)):ct P U0 where
 fn:=h.fn
 mf:=h.mf
 mixed:=h.mixed
 maps:=by
  intro k es hk;simp only[U0,bL.prog,JF,Bool.cond_eq_ite]at hk;split at hk
  .next hb=>
   cases hk;rw[Eb hb];exact qw9 h jje rfl rfl
  split at hk
  .next hb=>
   cases hk;rw[Eb hb];exact qw9 h jjz rfl rfl
  .cases hk
theorem okM {P:Program}(h:ct P (tree.prog fun _=>none)):ct P pr where
 fn:=by
  intro k f hf;simp only[pr,Bool.cond_eq_ite]at hf;split at hf
  .cases hf
  .exact h.fn k f hf
 mf:=fun k f h=>by cases h
 mixed:=h.mixed
 maps:=(okW h).maps
end Go.Z
end
