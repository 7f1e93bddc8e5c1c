/- What plain data comes in; the library's variables out of a row's condition. -/
import Derived.Test.YtlhfdilpecnjeaaGreatDoorAZ
import Derived.Test.YtlhfdilpecnjeaaGreatDoorAbsO
import Derived.Test.YtlhfdilpecnjeaaGreatDoorTie
import Derived.Test.YtlhfdilpecnjeaaGreatDoorCards
set_option linter.all false
set_option maxRecDepth 100000
namespace Go.Z
open Go Go.Abs Go.Proofs Go.RowKit
theorem qcc {y:AVal}(h:y.isAgg=false):y.flat=[y]:=by
 cases y<;>first|rfl|cases h
theorem j6m:ownKnob Tryz.prog.godebug=none:=by kernel_rfl
theorem jjy:laidOutB Tryz.prog=true:=by kernel_rfl
theorem jst {laid}(hm:(qH,Lib.tabData .u64 Lib.pow10Tab)∈laid){W}(hsh:W.ShapedOpen Tryz.prog)(h:laidMet Tryz.prog laid W):Tabs Tryz.prog W:=
 jtz (jmq (gt:=1) (t:=323) (e:=303) (n:=20) (by kernel_rfl) (by kernel_rfl) (by kernel_rfl) (by kernel_rfl) (by kernel_rfl) (by kernel_rfl) hm h)
  (jq9 (gl:=0) (tl:=3) (zero:=#[.int .i64 0]) (by kernel_rfl) (of_decide_eq_true (by kernel_rfl)) (by kernel_rfl) rfl (by kernel_rfl) (by kernel_rfl) (by kernel_rfl) hsh)
  (fun x M=>by
   simp only[H8,List.mem_cons,List.not_mem_nil,or_false]at M;rcases M with rfl|rfl|rfl
   ·exact WE (by kernel_rfl)
   ·exact WE (by kernel_rfl)
   ·exact WE (by kernel_rfl))
end Go.Z
