/- What plain data comes in; the library's variables out of a row's condition. -/
import Derived.Test.YtfopaakmgogpiaaGreatDoorWL
import Derived.Test.YtfopaakmgogpiaaGreatDoorAbsO
import Derived.Test.YtfopaakmgogpiaaGreatDoorTie
import Derived.Test.YtfopaakmgogpiaaGreatDoorCards
set_option linter.unusedVariables false
set_option linter.unusedSimpArgs false
set_option maxRecDepth 100000
namespace Go.Z
open Go Go.Abs Go.Proofs Go.RowKit
theorem qcb {y:qa}(h:y.isAgg=false):y.flat=[y]:=by
 cases y<;>first|rfl|cases h
theorem jh9 {y:qa}(h:y.isAgg=true):y=.agg y.flat:=by
 cases y<;>first|rfl|cases h
theorem j7c:ownKnob Tryz.prog.godebug=none:=by kernel_rfl
theorem jc4:laidOutB Tryz.prog=true:=by kernel_rfl
theorem jmd {laid}(hm:(nM,Lib.tabData .u64 Lib.pow10Tab)∈laid){W}(hsh:W.ShapedOpen Tryz.prog)(h:laidMet Tryz.prog laid W):Tabs Tryz.prog W:=
 jn0 (jjd (gt:=1) (t:=338) (e:=326) (n:=20) (by kernel_rfl) (by kernel_rfl) (by kernel_rfl) (by kernel_rfl) (by kernel_rfl) (by kernel_rfl) hm h)
  (jh5 (gl:=0) (tl:=3) (zero:=#[.int .i64 0]) (by kernel_rfl) (of_decide_eq_true (by kernel_rfl)) (by kernel_rfl) rfl (by kernel_rfl) (by kernel_rfl) (by kernel_rfl) hsh)
  (fun x hx=>by
   simp only[Ef,List.mem_cons,List.not_mem_nil,or_false]at hx
   rcases hx with rfl|rfl|rfl
   ·exact Wr (by kernel_rfl)
   ·exact Wr (by kernel_rfl)
   ·exact Wr (by kernel_rfl))
end Go.Z
