/- The functions that hand back a new map. -/
import Derived.Test.YtimdocpnkimlfaaGreatDoorZC
set_option linter.unusedVariables false
set_option linter.unusedSimpArgs false
set_option maxRecDepth 100000
open Nat renaming beq→I,eq_of_beq_eq_true→Ea
namespace Go.Z
open Go Go.Abs
def qz:List (AVal×AVal):=[((.str [108,111,116]),(.agg [(.str [45,45]),(.int .i64 2),(.fn (.func 168) [] [])])),((.str [112,114,111,100,117,99,116]),(.agg [(.str [45]),(.int .i64 1),(.fn (.func 169) [] [])])),((.str [110,101,101,100]),(.agg [(.str [112,45]),(.int .i64 2),(.fn (.func 170) [] [])])),((.str [116,101,115,116]),(.agg [(.str [112,45]),(.int .i64 3),(.fn (.func 171) [] [])])),((.str [105,115,115,117,101]),(.agg [(.str [112]),(.int .i64 1),(.fn (.func 172) [] [])])),((.str [98,117,105,108,100]),(.agg [(.str [45,112]),(.int .i64 1),(.fn (.func 173) [] [])])),((.str [117,115,101]),(.agg [(.str [117,108]),(.int .i64 2),(.fn (.func 174) [] [])])),((.str [109,101,97,115,117,114,101]),(.agg [(.str [117,45]),(.int .i64 2),(.fn (.func 175) [] [])])),((.str [117,112,100,97,116,101]),(.agg [(.str [117]),(.int .i64 1),(.fn (.func 176) [] [])])),((.str [112,97,105,114]),(.agg [(.str [117,117]),(.int .i64 1),(.fn (.func 177) [] [])])),((.str [104,111,108,100]),(.agg [(.str [108]),(.int .i64 1),(.fn (.func 178) [] [])])),((.str [102,114,101,101]),(.agg [(.str [108]),(.int .i64 1),(.fn (.func 179) [] [])])),((.str [115,104,105,112]),(.agg [(.str [117]),(.int .i64 1),(.fn (.func 180) [] [])])),((.str [99,111,109,112,108,97,105,110]),(.agg [(.str [117]),(.int .i64 1),(.fn (.func 181) [] [])])),((.str [117,110,100,111]),(.agg [(.str []),(.int .i64 0),.bN]))]
def jb:List (AVal×AVal):=[((.str [108,111,116,115]),(.agg [(.int .i32 117),(.fn (.func 156) [] [])])),((.str [117,110,105,116,115]),(.agg [(.int .i32 108),(.fn (.func 157) [] [])])),((.str [109,105,115,115,105,110,103]),(.agg [(.int .i32 117),(.fn (.func 158) [] [])])),((.str [115,116,111,99,107]),(.agg [(.int .i32 107),(.fn (.func 159) [] [])])),((.str [118,101,114,115,105,111,110]),(.agg [(.int .i32 112),(.fn (.func 160) [] [])])),((.str [115,104,105,112,112,101,100]),(.agg [(.int .i32 0),(.fn (.func 163) [] [])])),((.str [104,101,108,100]),(.agg [(.int .i32 0),(.fn (.func 165) [] [])]))]
def Fe:Nz:=fun k=>bif I k 101 then some qz else bif I k 99 then some jb else none
def isS (k:Nat):Bool:=I k 254||I k 44||I k 105||I k 103||I k 196||I k 15
def QL:jg:=tree.prog (fun _=>none) Fe
def pr:jg:={ bn:=fun k=>bif isS k then none else tree.find k,bM:=fun _=>none,maps:=Fe }
theorem q4t {k:Nat}(h:isS k=true):pr.bn k=none:=by simp only[pr,h,cond_true]
theorem q5h:ah (tree.prog fun _=>none) (yj (tree.prog fun _=>none) 1000) 101 [] []=some (.map 0,false,[.map qz]):=by kernel_rfl
theorem q9e:ah (tree.prog fun _=>none) (yj (tree.prog fun _=>none) 1000) 99 [] []=some (.map 0,false,[.map jb]):=by kernel_rfl
theorem okW {P:Program}(h:bu P (tree.prog fun _=>none)):bu P QL where
 fn:=h.fn
 eW:=h.eW
 mixed:=h.mixed
 maps:=by
  intro k es hk
  simp only[QL,cP.prog,Fe,Bool.cond_eq_ite]at hk
  split at hk
  ·next hb=>
   cases hk
   rw[Ea hb]
   exact ZC h q5h rfl rfl
  split at hk
  ·next hb=>
   cases hk
   rw[Ea hb]
   exact ZC h q9e rfl rfl
  ·cases hk
theorem W3 {P:Program}(h:bu P (tree.prog fun _=>none)):bu P pr where
 fn:=by
  intro k f hf
  simp only[pr,Bool.cond_eq_ite]at hf
  split at hf
  ·cases hf
  ·exact h.fn k f hf
 eW:=fun k f h=>by cases h
 mixed:=h.mixed
 maps:=(okW h).maps
end Go.Z
