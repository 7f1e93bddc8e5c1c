/-
  The fixed calls as a table.
-/
import Derived.Test.YtlonjmhacojkjaaGreatDoorZWA
import Derived.Test.YtlonjmhacojkjaaGreatDoorZWB
import Derived.Test.YtlonjmhacojkjaaGreatDoorZWC
import Derived.Test.YtlonjmhacojkjaaGreatDoorZWD
import Derived.Test.YtlonjmhacojkjaaGreatDoorZWE
import Derived.Test.YtlonjmhacojkjaaGreatDoorZWF
import Derived.Test.YtlonjmhacojkjaaGreatDoorZWG
import Derived.Test.YtlonjmhacojkjaaGreatDoorZWH
import Derived.Test.YtlonjmhacojkjaaGreatDoorAbsH
set_option linter.unusedVariables false
set_option linter.unusedSimpArgs false
set_option maxRecDepth 100000
namespace Go.Z
open Go Go.Abs
def e1:Row:=([(.agg [(.int .i64 2),(.int .i64 (-1)),(.int .i64 1),(.int .i64 0),(.int .i64 0),(.int .i64 0)]),(.list false 1 [(.int .i64 1),(.int .i64 1),(.int .i64 0),(.int .i64 0)])],(.tup [(.list false 1 [(.int .i64 2),(.int .i64 1),(.int .i64 0),(.int .i64 1)]),(.int .i64 0)]),false)
def e2:Row:=([(.agg [(.int .i64 2),(.int .i64 (-1)),(.int .i64 1),(.int .i64 0),(.int .i64 0),(.int .i64 0)]),(.list false 1 [(.int .i64 1),(.int .i64 (-1)),(.int .i64 0),(.int .i64 0)])],(.tup [(.list false 1 [(.int .i64 2),(.int .i64 (-3)),(.int .i64 2),(.int .i64 (-1))]),(.int .i64 0)]),false)
def e3:Row:=([(.list false 1 [(.int .i64 2),(.int .i64 1),(.int .i64 0),(.int .i64 1)]),(.list false 1 [(.int .i64 2),(.int .i64 (-3)),(.int .i64 2),(.int .i64 (-1))]),(.int .i64 2)],(.tup [(.list false 1 [(.int .i64 2),(.int .i64 (-1)),(.int .i64 1)]),(.int .i64 0)]),false)
def e4:Row:=([(.list false 2 [(.agg [(.str [97]),(.list false 1 [(.int .i64 5)])]),(.agg [(.str [98]),(.list false 1 [(.int .i64 1)])]),(.agg [(.str [99]),(.list false 1 [(.int .i64 4)])]),(.agg [(.str [100]),(.list false 1 [(.int .i64 2)])])])],(.tup [(.list false 2 [(.agg [(.int .i64 0),(.int .i64 2)]),(.agg [(.int .i64 1),(.int .i64 3)])]),(.int .i64 1),(.int .i64 0)]),false)
def e5:Row:=([(.list false 2 [(.agg [(.int .i64 0),(.int .i64 2)]),(.agg [(.int .i64 1),(.int .i64 3)])]),(.list false 2 [(.agg [(.int .i64 0),(.int .i64 2)]),(.agg [(.int .i64 1),(.int .i64 3)])])],(.bool true),false)
def e6:Row:=([(.list false 1 [(.int .i64 2),(.int .i64 (-1)),(.int .i64 1)]),(.list false 1 [(.int .i64 2),(.int .i64 (-1)),(.int .i64 1)])],(.bool true),false)
def e7:Row:=([(.list false 1 [(.int .i64 2),(.int .i64 (-3)),(.int .i64 2),(.int .i64 (-1))]),(.list false 1 [(.int .i64 2),(.int .i64 (-3)),(.int .i64 2),(.int .i64 (-1))])],(.bool true),false)
def e8:Row:=([(.list false 1 [(.int .i64 2),(.int .i64 1),(.int .i64 0),(.int .i64 1)]),(.list false 1 [(.int .i64 2),(.int .i64 1),(.int .i64 0),(.int .i64 1)])],(.bool true),false)
def tabL:List (Nat × List Row):=[(7,[e3]),(8,[e6,e7,e8]),(15,[e4]),(16,[e5]),(20,[e1,e2])]
def tab:Nat→Option (List Row):=lookTab tabL
theorem tabOk {P:Program} (h:ProgOk P (tree.prog fun _=>none)):TabOk P tab:=
 tab_ok (t:=tabL) ⟨⟨iso_of_run h w3,trivial⟩,⟨iso_of_run h w6,iso_of_run h w7,iso_of_run h w8,trivial⟩,⟨iso_of_run h w4,trivial⟩,⟨iso_of_run h w5,trivial⟩,⟨iso_of_run h w1,iso_of_run h w2,trivial⟩,trivial⟩
theorem awakeRun:callIso (tree.prog (tabPrims tab)) (xcodeF (tree.prog (tabPrims tab)) 1000) 5 []=some (.bool true,false):=by kernel_rfl
end Go.Z
