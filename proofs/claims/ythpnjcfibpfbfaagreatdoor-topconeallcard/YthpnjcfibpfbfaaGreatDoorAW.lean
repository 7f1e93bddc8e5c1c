/- Fixed calls, run by the kernel. -/
import Derived.Test.YthpnjcfibpfbfaaGreatDoorLA
set_option linter.unusedVariables false
set_option linter.unusedSimpArgs false
set_option maxRecDepth 100000
namespace Go.Z
open Go Go.Abs
theorem w1:qd prL (zy prL 1000) 9 [(.list false 8 [(.agg [(.str [114]),(.str [115,101,114,105,101,115]),(.int .i64 1),(.int .i64 0),(.int .i64 0),(.int .i64 0),(.int .i64 2),(.int .i64 1)]),(.agg [(.str [99]),(.str [115,104,117,110,116]),(.int .i64 0),(.int .i64 2),(.int .i64 0),(.int .i64 1),(.int .i64 3),(.int .i64 1)])]),(.list false 5 [(.agg [(.int .i64 1),(.int .i64 1),(.int .i64 10),(.int .i64 1),(.int .i64 2)]),(.agg [(.int .i64 2),(.int .i64 0),(.int .i64 1),(.int .i64 1),(.int .i64 5)])]),(.int .i64 2)]=some ((.tup [(.list false 1 [(.int .i64 0),(.int .i64 1)]),(.int .i64 5),(.int .i64 0)]),false):=by kernel_rfl
theorem w2:qd prL (zy prL 1000) 32 [(.list false 8 [(.agg [(.str [114]),(.str [115,101,114,105,101,115]),(.int .i64 1),(.int .i64 0),(.int .i64 0),(.int .i64 0),(.int .i64 2),(.int .i64 1)]),(.agg [(.str [99]),(.str [115,104,117,110,116]),(.int .i64 0),(.int .i64 2),(.int .i64 0),(.int .i64 1),(.int .i64 3),(.int .i64 1)])]),(.list false 1 [(.int .i64 0),(.int .i64 1)]),(.int .i64 1)]=some ((.tup [(.agg [(.int .i64 1),(.int .i64 10),(.int .i64 1),(.int .i64 2)]),(.int .i64 0)]),false):=by kernel_rfl
theorem w3:qd prL (zy prL 1000) 59 [(.list false 3 [(.agg [(.str [115,101,114,105,101,115]),(.int .i64 1),(.int .i64 0)]),(.agg [(.str [115,104,117,110,116]),(.int .i64 0),(.int .i64 2)])])]=some ((.tup [(.str [115,101,114,105,101,115,58,49,58,48,32,115,104,117,110,116,58,48,58,50]),(.int .i64 0)]),false):=by kernel_rfl
theorem w4:qd prL (zy prL 1000) 37 [(.list false 1 [(.int .i64 0),(.int .i64 1)]),(.list false 1 [(.int .i64 0),(.int .i64 1)])]=some ((.bool true),false):=by kernel_rfl
end Go.Z
namespace Go.Z
open Go Go.Abs Go.Proofs
def e1:Row:=([(.list false 8 [(.agg [(.str [114]),(.str [115,101,114,105,101,115]),(.int .i64 1),(.int .i64 0),(.int .i64 0),(.int .i64 0),(.int .i64 2),(.int .i64 1)]),(.agg [(.str [99]),(.str [115,104,117,110,116]),(.int .i64 0),(.int .i64 2),(.int .i64 0),(.int .i64 1),(.int .i64 3),(.int .i64 1)])]),(.list false 5 [(.agg [(.int .i64 1),(.int .i64 1),(.int .i64 10),(.int .i64 1),(.int .i64 2)]),(.agg [(.int .i64 2),(.int .i64 0),(.int .i64 1),(.int .i64 1),(.int .i64 5)])]),(.int .i64 2)],(.tup [(.list false 1 [(.int .i64 0),(.int .i64 1)]),(.int .i64 5),(.int .i64 0)]),false)
def e2:Row:=([(.list false 8 [(.agg [(.str [114]),(.str [115,101,114,105,101,115]),(.int .i64 1),(.int .i64 0),(.int .i64 0),(.int .i64 0),(.int .i64 2),(.int .i64 1)]),(.agg [(.str [99]),(.str [115,104,117,110,116]),(.int .i64 0),(.int .i64 2),(.int .i64 0),(.int .i64 1),(.int .i64 3),(.int .i64 1)])]),(.list false 1 [(.int .i64 0),(.int .i64 1)]),(.int .i64 1)],(.tup [(.agg [(.int .i64 1),(.int .i64 10),(.int .i64 1),(.int .i64 2)]),(.int .i64 0)]),false)
def e3:Row:=([(.list false 3 [(.agg [(.str [115,101,114,105,101,115]),(.int .i64 1),(.int .i64 0)]),(.agg [(.str [115,104,117,110,116]),(.int .i64 0),(.int .i64 2)])])],(.tup [(.str [115,101,114,105,101,115,58,49,58,48,32,115,104,117,110,116,58,48,58,50]),(.int .i64 0)]),false)
def e4:Row:=([(.list false 1 [(.int .i64 0),(.int .i64 1)]),(.list false 1 [(.int .i64 0),(.int .i64 1)])],(.bool true),false)
def qwb:List (Nat×List Row):=[(9,[e1]),(32,[e2]),(37,[e4]),(59,[e3])]
def tab:Nat→Option (List Row):=qej qwb
theorem q31:qw5 Tryz.prog tab:=
 qtk (t:=qwb) ⟨⟨qcq okLib w1,trivial⟩,⟨qcq okLib w2,trivial⟩,⟨qcq okLib w4,trivial⟩,⟨qcq okLib w3,trivial⟩,trivial⟩
def prA:je:={ fns:=prL.fns,prims:=fun k=>match tab k with
 |some l=>some fun args=>qf7 args l
 |none=>qnu k,sprims:=prL.sprims,maps:=prL.maps }
theorem okA:ProgOk Tryz.prog prA where
 fn:=okLib.fn
 prim:=by
  intro k f hf
  simp only[prA]at hf
  split at hf
  ·rename_i l hl
   cases hf
   exact⟨qda (quu qwb (by kernel_rfl) k l hl),fun args v o hv _ _=>q31 k l hl _ (qi5 hv)⟩
  ·exact okLib.prim k f hf
 mixed:=okLib.mixed
 sprim:=okLib.sprim
 maps:=okLib.maps
end Go.Z
