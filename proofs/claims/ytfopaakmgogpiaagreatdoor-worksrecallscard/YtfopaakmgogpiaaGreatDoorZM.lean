/- The functions that hand back a new map. -/
import Derived.Test.YtfopaakmgogpiaaGreatDoorZC
set_option linter.unusedVariables false
set_option linter.unusedSimpArgs false
set_option maxRecDepth 100000
namespace Go.Z
open Go Go.Abs
def z6:List (qa×qa):=[((.str [108,111,116]),(.agg [(.str [45,45]),(.int .i64 2),(.fn (.func 105) [] [])])),((.str [112,114,111,100,117,99,116]),(.agg [(.str [45]),(.int .i64 1),(.fn (.func 106) [] [])])),((.str [110,101,101,100]),(.agg [(.str [112,45]),(.int .i64 2),(.fn (.func 107) [] [])])),((.str [116,101,115,116]),(.agg [(.str [112,45]),(.int .i64 3),(.fn (.func 108) [] [])])),((.str [105,115,115,117,101]),(.agg [(.str [112]),(.int .i64 1),(.fn (.func 109) [] [])])),((.str [98,117,105,108,100]),(.agg [(.str [45,112]),(.int .i64 1),(.fn (.func 110) [] [])])),((.str [117,115,101]),(.agg [(.str [117,108]),(.int .i64 2),(.fn (.func 111) [] [])])),((.str [109,101,97,115,117,114,101]),(.agg [(.str [117,45]),(.int .i64 2),(.fn (.func 112) [] [])])),((.str [117,112,100,97,116,101]),(.agg [(.str [117]),(.int .i64 1),(.fn (.func 113) [] [])])),((.str [112,97,105,114]),(.agg [(.str [117,117]),(.int .i64 1),(.fn (.func 114) [] [])])),((.str [104,111,108,100]),(.agg [(.str [108]),(.int .i64 1),(.fn (.func 115) [] [])])),((.str [102,114,101,101]),(.agg [(.str [108]),(.int .i64 1),(.fn (.func 116) [] [])])),((.str [115,104,105,112]),(.agg [(.str [117]),(.int .i64 1),(.fn (.func 117) [] [])])),((.str [99,111,109,112,108,97,105,110]),(.agg [(.str [117]),(.int .i64 1),(.fn (.func 118) [] [])])),((.str [117,110,100,111]),(.agg [(.str []),(.int .i64 0),.bX]))]
def z8:List (qa×qa):=[((.str [108,111,116,115]),(.agg [(.int .i32 117),(.fn (.func 213) [] [])])),((.str [117,110,105,116,115]),(.agg [(.int .i32 108),(.fn (.func 214) [] [])])),((.str [109,105,115,115,105,110,103]),(.agg [(.int .i32 117),(.fn (.func 215) [] [])])),((.str [115,116,111,99,107]),(.agg [(.int .i32 107),(.fn (.func 216) [] [])])),((.str [118,101,114,115,105,111,110]),(.agg [(.int .i32 112),(.fn (.func 217) [] [])])),((.str [115,104,105,112,112,101,100]),(.agg [(.int .i32 0),(.fn (.func 218) [] [])])),((.str [104,101,108,100]),(.agg [(.int .i32 0),(.fn (.func 220) [] [])]))]
def Xz:TF:=fun k=>bif Nat.beq k 50 then some z6 else bif Nat.beq k 150 then some z8 else none
def pr:qr:=tree.prog (fun _=>none) Xz
theorem jkr:ze (tree.prog fun _=>none) (hZ (tree.prog fun _=>none) 1000) 50 [] []=some (.map 0,false,[.map z6]):=by kernel_rfl
theorem jej:ze (tree.prog fun _=>none) (hZ (tree.prog fun _=>none) 1000) 150 [] []=some (.map 0,false,[.map z8]):=by kernel_rfl
theorem okM {P:Program}(h:qw P (tree.prog fun _=>none)):qw P pr where
 fn:=h.fn
 gF:=h.gF
 mixed:=h.mixed
 maps:=by
  intro k es hk
  simp only[pr,ja.prog,Xz,Bool.cond_eq_ite]at hk
  split at hk
  ·next hb=>
   cases hk
   rw[Nat.eq_of_beq_eq_true hb]
   exact qwl h jkr rfl rfl
  split at hk
  ·next hb=>
   cases hk
   rw[Nat.eq_of_beq_eq_true hb]
   exact qwl h jej rfl rfl
  ·cases hk
end Go.Z
