/- The functions that hand back a new map. -/
import Derived.Test.YtimdocpnkimlfaaGreatDoorZC
set_option linter.unusedVariables false
set_option linter.unusedSimpArgs false
set_option maxRecDepth 100000
namespace Go.Z
open Go Go.Abs
def qy:List (AVal×AVal):=[((.str [108,111,116]),(.agg [(.str [45,45]),(.int .i64 2),(.fn (.func 168) [] [])])),((.str [112,114,111,100,117,99,116]),(.agg [(.str [45]),(.int .i64 1),(.fn (.func 169) [] [])])),((.str [110,101,101,100]),(.agg [(.str [112,45]),(.int .i64 2),(.fn (.func 170) [] [])])),((.str [116,101,115,116]),(.agg [(.str [112,45]),(.int .i64 3),(.fn (.func 171) [] [])])),((.str [105,115,115,117,101]),(.agg [(.str [112]),(.int .i64 1),(.fn (.func 172) [] [])])),((.str [98,117,105,108,100]),(.agg [(.str [45,112]),(.int .i64 1),(.fn (.func 173) [] [])])),((.str [117,115,101]),(.agg [(.str [117,108]),(.int .i64 2),(.fn (.func 174) [] [])])),((.str [109,101,97,115,117,114,101]),(.agg [(.str [117,45]),(.int .i64 2),(.fn (.func 175) [] [])])),((.str [117,112,100,97,116,101]),(.agg [(.str [117]),(.int .i64 1),(.fn (.func 176) [] [])])),((.str [112,97,105,114]),(.agg [(.str [117,117]),(.int .i64 1),(.fn (.func 177) [] [])])),((.str [104,111,108,100]),(.agg [(.str [108]),(.int .i64 1),(.fn (.func 178) [] [])])),((.str [102,114,101,101]),(.agg [(.str [108]),(.int .i64 1),(.fn (.func 179) [] [])])),((.str [115,104,105,112]),(.agg [(.str [117]),(.int .i64 1),(.fn (.func 180) [] [])])),((.str [99,111,109,112,108,97,105,110]),(.agg [(.str [117]),(.int .i64 1),(.fn (.func 181) [] [])])),((.str [117,110,100,111]),(.agg [(.str []),(.int .i64 0),.cr]))]
def jn:List (AVal×AVal):=[((.str [108,111,116,115]),(.agg [(.int .i32 117),(.fn (.func 156) [] [])])),((.str [117,110,105,116,115]),(.agg [(.int .i32 108),(.fn (.func 157) [] [])])),((.str [109,105,115,115,105,110,103]),(.agg [(.int .i32 117),(.fn (.func 158) [] [])])),((.str [115,116,111,99,107]),(.agg [(.int .i32 107),(.fn (.func 159) [] [])])),((.str [118,101,114,115,105,111,110]),(.agg [(.int .i32 112),(.fn (.func 160) [] [])])),((.str [115,104,105,112,112,101,100]),(.agg [(.int .i32 0),(.fn (.func 163) [] [])])),((.str [104,101,108,100]),(.agg [(.int .i32 0),(.fn (.func 165) [] [])]))]
def Uz:Qv:=fun k=>bif Nat.beq k 101 then some qy else bif Nat.beq k 99 then some jn else none
def pr:j8:=tree.prog (fun _=>none) Uz
theorem jd4:ql (tree.prog fun _=>none) (iF (tree.prog fun _=>none) 1000) 101 [] []=some (.map 0,false,[.map qy]):=by kernel_rfl
theorem jhs:ql (tree.prog fun _=>none) (iF (tree.prog fun _=>none) 1000) 99 [] []=some (.map 0,false,[.map jn]):=by kernel_rfl
theorem okM {P:Program}(h:bW P (tree.prog fun _=>none)):bW P pr where
 fn:=h.fn
 iE:=h.iE
 mixed:=h.mixed
 maps:=by
  intro k es hk
  simp only[pr,du.prog,Uz,Bool.cond_eq_ite]at hk
  split at hk
  ·next hb=>
   cases hk
   rw[Nat.eq_of_beq_eq_true hb]
   exact qxw h jd4 rfl rfl
  split at hk
  ·next hb=>
   cases hk
   rw[Nat.eq_of_beq_eq_true hb]
   exact qxw h jhs rfl rfl
  ·cases hk
end Go.Z
