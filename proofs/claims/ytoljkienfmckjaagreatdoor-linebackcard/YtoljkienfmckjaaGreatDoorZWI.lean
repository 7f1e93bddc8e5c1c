/-
  The fixed calls as a table.
-/
import Derived.Test.YtoljkienfmckjaaGreatDoorZWA
import Derived.Test.YtoljkienfmckjaaGreatDoorZWB
import Derived.Test.YtoljkienfmckjaaGreatDoorZWC
import Derived.Test.YtoljkienfmckjaaGreatDoorZWD
import Derived.Test.YtoljkienfmckjaaGreatDoorZWE
import Derived.Test.YtoljkienfmckjaaGreatDoorZWF
import Derived.Test.YtoljkienfmckjaaGreatDoorZWG
import Derived.Test.YtoljkienfmckjaaGreatDoorZWH
import Derived.Test.YtoljkienfmckjaaGreatDoorAbsH
set_option linter.unusedVariables false
set_option linter.unusedSimpArgs false
set_option maxRecDepth 100000
namespace Go.Z
open Go Go.Abs
def e1:Row:=([(.list false 2 [(.agg [(.str [97]),(.list false 1 [(.int .i64 10),(.int .i64 20)])]),(.agg [(.str [98]),(.list false 1 [(.int .i64 12),(.int .i64 20)])])]),(.int .i64 1)],(.tup [(.agg [(.list false 1 [(.int .i64 9),(.int .i64 19)]),(.list false 1 [(.int .i64 13),(.int .i64 21)])]),(.int .i64 0)]),false)
def e2:Row:=([],(.list false 2 [(.agg [(.str [97]),(.list false 1 [(.int .i64 10),(.int .i64 20)])]),(.agg [(.str [98]),(.list false 1 [(.int .i64 12),(.int .i64 20)])]),(.agg [(.str [99]),(.list false 1 [(.int .i64 11),(.int .i64 26)])]),(.agg [(.str [100]),(.list false 1 [(.int .i64 30),(.int .i64 20)])])]),true)
def e3:Row:=([(.agg [(.list false 1 [(.int .i64 9),(.int .i64 19)]),(.list false 1 [(.int .i64 13),(.int .i64 21)])]),(.agg [(.str [99]),(.list false 1 [(.int .i64 11),(.int .i64 26)])])],(.tup [(.list false 1 [(.int .i64 1)]),(.int .i64 0)]),false)
def e4:Row:=([(.agg [(.list false 1 [(.int .i64 9),(.int .i64 19)]),(.list false 1 [(.int .i64 13),(.int .i64 21)])]),(.agg [(.str [100]),(.list false 1 [(.int .i64 30),(.int .i64 20)])])],(.tup [(.list false 1 [(.int .i64 0)]),(.int .i64 0)]),false)
def e5:Row:=([(.agg [(.list false 1 [(.int .i64 9),(.int .i64 19)]),(.list false 1 [(.int .i64 13),(.int .i64 21)])]),(.list false 2 [(.agg [(.str [97]),(.list false 1 [(.int .i64 10),(.int .i64 20)])]),(.agg [(.str [98]),(.list false 1 [(.int .i64 12),(.int .i64 20)])]),(.agg [(.str [99]),(.list false 1 [(.int .i64 11),(.int .i64 26)])]),(.agg [(.str [100]),(.list false 1 [(.int .i64 30),(.int .i64 20)])])])],(.tup [(.agg [(.int .i64 1),(.int .i64 2)]),(.int .i64 0)]),false)
def e6:Row:=([(.agg [(.list false 1 [(.int .i64 9),(.int .i64 19)]),(.list false 1 [(.int .i64 13),(.int .i64 21)])]),(.int .i64 1)],(.tup [(.agg [(.list false 1 [(.int .i64 10),(.int .i64 20)]),(.list false 1 [(.int .i64 12),(.int .i64 20)])]),(.int .i64 0)]),false)
def e7:Row:=([(.agg [(.list false 1 [(.int .i64 9),(.int .i64 19)]),(.list false 1 [(.int .i64 13),(.int .i64 21)])]),(.int .i64 2)],(.tup [(.agg [(.list true 0 []),(.list true 0 [])]),(.int .i64 24)]),false)
def e8:Row:=([(.agg [(.list false 1 [(.int .i64 9),(.int .i64 19)]),(.list false 1 [(.int .i64 13),(.int .i64 21)])]),(.agg [(.str [97]),(.list false 1 [(.int .i64 10),(.int .i64 20)])]),(.int .i64 2)],(.tup [(.int .i64 1),(.int .i64 0)]),false)
def e9:Row:=([(.agg [(.list false 1 [(.int .i64 10),(.int .i64 20)]),(.list false 1 [(.int .i64 12),(.int .i64 20)])]),(.agg [(.list false 1 [(.int .i64 10),(.int .i64 20)]),(.list false 1 [(.int .i64 12),(.int .i64 20)])])],(.bool true),false)
def e10:Row:=([(.list false 1 [(.int .i64 0)]),(.list false 1 [(.int .i64 0)])],(.bool true),false)
def e11:Row:=([(.list false 1 [(.int .i64 1)]),(.list false 1 [(.int .i64 1)])],(.bool true),false)
def e12:Row:=([(.agg [(.list false 1 [(.int .i64 9),(.int .i64 19)]),(.list false 1 [(.int .i64 13),(.int .i64 21)])]),(.agg [(.list false 1 [(.int .i64 9),(.int .i64 19)]),(.list false 1 [(.int .i64 13),(.int .i64 21)])])],(.bool true),false)
def e13:Row:=([(.agg [(.int .i64 4),(.int .i64 2),(.int .i64 0)]),(.int .i64 1)],(.tup [(.agg [(.int .i64 1),(.int .i64 2)]),(.int .i64 0)]),false)
def e14:Row:=([(.agg [(.int .i64 4),(.int .i64 2),(.int .i64 0)]),(.int .i64 2)],(.tup [(.agg [(.int .i64 1),(.int .i64 6)]),(.int .i64 0)]),false)
def e15:Row:=([(.agg [(.int .i64 4),(.int .i64 2),(.int .i64 0)]),(.int .i64 0),(.int .i64 2)],(.tup [(.agg [(.int .i64 0),(.int .i64 1),(.int .i64 1),(.int .i64 6)]),(.int .i64 0)]),false)
def e16:Row:=([(.int .i64 4),(.int .i64 1),(.int .i64 2),(.agg [(.int .i64 1),(.int .i64 2),(.int .i64 1),(.int .i64 6)])],(.tup [(.agg [(.int .i64 4),(.int .i64 2),(.int .i64 0)]),(.int .i64 0)]),false)
def e17:Row:=([(.agg [(.int .i64 4),(.int .i64 2),(.int .i64 0)]),(.list false 1 [(.bool false),(.bool false)])],(.tup [(.bool true),(.int .i64 2),(.int .i64 0)]),false)
def e18:Row:=([(.agg [(.int .i64 4),(.int .i64 2),(.int .i64 0)]),(.list false 1 [(.bool true)])],(.tup [(.bool false),(.int .i64 1),(.int .i64 0)]),false)
def e19:Row:=([(.list false 1 [(.int .i64 3),(.int .i64 3),(.int .i64 2),(.int .i64 2),(.int .i64 2)]),(.int .i64 2)],(.tup [(.list false 1 [(.int .i64 0),(.int .i64 0),(.int .i64 1),(.int .i64 1),(.int .i64 1)]),(.int .i64 6),(.int .i64 0)]),false)
def e20:Row:=([(.list false 1 [(.int .i64 3),(.int .i64 3),(.int .i64 2),(.int .i64 2),(.int .i64 2)]),(.int .i64 3)],(.tup [(.list false 1 [(.int .i64 0),(.int .i64 1),(.int .i64 0),(.int .i64 1),(.int .i64 2)]),(.int .i64 5),(.int .i64 0)]),false)
def e21:Row:=([(.list false 1 [(.int .i64 3),(.int .i64 3),(.int .i64 2),(.int .i64 2),(.int .i64 2)]),(.int .i64 2)],(.tup [(.int .i64 6),(.int .i64 0)]),false)
def e22:Row:=([(.list false 1 [(.int .i64 3),(.int .i64 3),(.int .i64 2),(.int .i64 2),(.int .i64 2)]),(.int .i64 3)],(.tup [(.int .i64 4),(.int .i64 0)]),false)
def e23:Row:=([(.list false 2 [(.agg [(.str [97]),(.list false 1 [(.int .i64 10),(.int .i64 20)])]),(.agg [(.str [98]),(.list false 1 [(.int .i64 12),(.int .i64 20)])]),(.agg [(.str [99]),(.list false 1 [(.int .i64 11),(.int .i64 26)])]),(.agg [(.str [100]),(.list false 1 [(.int .i64 30),(.int .i64 20)])])])],(.tup [(.list false 2 [(.agg [(.int .i64 0),(.int .i64 2)]),(.agg [(.int .i64 1),(.int .i64 3)])]),(.int .i64 18),(.int .i64 0)]),false)
def e24:Row:=([(.list false 2 [(.agg [(.str [97]),(.list false 1 [(.int .i64 10),(.int .i64 20)])]),(.agg [(.str [98]),(.list false 1 [(.int .i64 12),(.int .i64 20)])]),(.agg [(.str [99]),(.list false 1 [(.int .i64 11),(.int .i64 26)])]),(.agg [(.str [100]),(.list false 1 [(.int .i64 30),(.int .i64 20)])])]),(.int .i64 18)],(.tup [(.list true 0 []),(.int .i64 0)]),false)
def e25:Row:=([(.list false 2 [(.agg [(.str [97]),(.list false 1 [(.int .i64 10),(.int .i64 20)])]),(.agg [(.str [98]),(.list false 1 [(.int .i64 12),(.int .i64 20)])]),(.agg [(.str [99]),(.list false 1 [(.int .i64 11),(.int .i64 26)])]),(.agg [(.str [100]),(.list false 1 [(.int .i64 30),(.int .i64 20)])])]),(.int .i64 19)],(.tup [(.list true 0 []),(.int .i64 7)]),false)
def e26:Row:=([(.list false 2 [(.agg [(.str [97]),(.list false 1 [(.int .i64 10),(.int .i64 20)])]),(.agg [(.str [98]),(.list false 1 [(.int .i64 12),(.int .i64 20)])]),(.agg [(.str [99]),(.list false 1 [(.int .i64 11),(.int .i64 26)])]),(.agg [(.str [100]),(.list false 1 [(.int .i64 30),(.int .i64 20)])])])],(.tup [(.int .i64 1),(.int .i64 0)]),false)
def e27:Row:=([(.agg [(.str [98]),(.list false 1 [(.int .i64 12),(.int .i64 20)])]),(.agg [(.str [100]),(.list false 1 [(.int .i64 30),(.int .i64 20)])])],(.tup [(.int .i64 18),(.int .i64 0)]),false)
def e28:Row:=([(.list false 2 [(.agg [(.int .i64 0),(.int .i64 2)]),(.agg [(.int .i64 1),(.int .i64 3)])]),(.list false 2 [(.agg [(.int .i64 0),(.int .i64 2)]),(.agg [(.int .i64 1),(.int .i64 3)])])],(.bool true),false)
def e29:Row:=([(.list false 1 [(.int .i64 0),(.int .i64 1),(.int .i64 0),(.int .i64 1),(.int .i64 2)]),(.list false 1 [(.int .i64 0),(.int .i64 1),(.int .i64 0),(.int .i64 1),(.int .i64 2)])],(.bool true),false)
def e30:Row:=([(.list false 1 [(.int .i64 0),(.int .i64 0),(.int .i64 1),(.int .i64 1),(.int .i64 1)]),(.list false 1 [(.int .i64 0),(.int .i64 0),(.int .i64 1),(.int .i64 1),(.int .i64 1)])],(.bool true),false)
def tabL:List (Nat × List Row):=[(16,[e1]),(17,[e2]),(18,[e3,e4]),(19,[e5]),(20,[e6,e7]),(21,[e8]),(22,[e9,e12]),(23,[e10,e11,e29,e30]),(24,[e13,e14]),(25,[e15]),(26,[e16]),(27,[e17,e18]),(28,[e19,e20]),(29,[e21,e22]),(30,[e23]),(31,[e24,e25]),(32,[e26]),(33,[e27]),(34,[e28])]
def tab:Nat→Option (List Row):=lookTab tabL
theorem tabOk {P:Program} (h:ProgOk P (tree.prog fun _=>none)):TabOk P tab:=
 tab_ok (t:=tabL) ⟨⟨iso_of_run h w1,trivial⟩,⟨iso_of_run h w2,trivial⟩,⟨iso_of_run h w3,iso_of_run h w4,trivial⟩,⟨iso_of_run h w5,trivial⟩,⟨iso_of_run h w6,iso_of_run h w7,trivial⟩,⟨iso_of_run h w8,trivial⟩,⟨iso_of_run h w9,iso_of_run h w12,trivial⟩,⟨iso_of_run h w10,iso_of_run h w11,iso_of_run h w29,iso_of_run h w30,trivial⟩,⟨iso_of_run h w13,iso_of_run h w14,trivial⟩,⟨iso_of_run h w15,trivial⟩,⟨iso_of_run h w16,trivial⟩,⟨iso_of_run h w17,iso_of_run h w18,trivial⟩,⟨iso_of_run h w19,iso_of_run h w20,trivial⟩,⟨iso_of_run h w21,iso_of_run h w22,trivial⟩,⟨iso_of_run h w23,trivial⟩,⟨iso_of_run h w24,iso_of_run h w25,trivial⟩,⟨iso_of_run h w26,trivial⟩,⟨iso_of_run h w27,trivial⟩,⟨iso_of_run h w28,trivial⟩,trivial⟩
theorem awakeRun:callIso (tree.prog (tabPrims tab)) (xcodeF (tree.prog (tabPrims tab)) 1000) 5 []=some (.bool true,false):=by kernel_rfl
end Go.Z
