/- What plain data comes in; the library's variables out of a row's condition. -/
import Derived.Test.YtoaianfagfampaaGreatDoorPS
import Derived.Test.YtoaianfagfampaaGreatDoorAbsO
import Derived.Test.YtoaianfagfampaaGreatDoorTie
import Derived.Test.YtoaianfagfampaaGreatDoorCards
set_option linter.all false
set_option maxRecDepth 100000
namespace Go.Z
open Go Go.Abs Go.Proofs Go.RowKit
theorem qbk {y:AVal}(h:y.isAgg=false):y.flat=[y]:=by
 cases y<;>first|rfl|cases h
theorem jjh {y:AVal}(h:y.isAgg=true):y=.agg y.flat:=by
 cases y<;>first|rfl|cases h
theorem jy1:ownKnob Tryz.prog.godebug=none:=by kernel_rfl
theorem jet:laidOutB Tryz.prog=true:=by kernel_rfl
theorem jqt {laid}(hm:(pu,Lib.tabData .u64 Lib.pow10Tab)∈laid){W}(hsh:W.ShapedOpen Tryz.prog)(h:laidMet Tryz.prog laid W):Tabs Tryz.prog W:=
 jo9 (jjs (gt:=1) (t:=306) (e:=284) (n:=20) (by kernel_rfl) (by kernel_rfl) (by kernel_rfl) (by kernel_rfl) (by kernel_rfl) (by kernel_rfl) hm h)
  (jle (gl:=0) (tl:=3) (zero:=#[.int .i64 0]) (by kernel_rfl) (of_decide_eq_true (by kernel_rfl)) (by kernel_rfl) rfl (by kernel_rfl) (by kernel_rfl) (by kernel_rfl) hsh)
  (fun x M=>by
   simp only[GN,List.mem_cons,List.not_mem_nil,or_false]at M;rcases M with rfl|rfl|rfl
   ·exact TS (by kernel_rfl)
   ·exact TS (by kernel_rfl)
   ·exact TS (by kernel_rfl))
theorem jgs {x:Int}(h:(Lit.int .u16 x).wf=true):0<=x/\x<=65535:=by
 simp only[Lit.wf,Bool.and_eq_true,decide_eq_true_eq]at h
 have e1:IntKind.min .u16=0:=by decide
 have e2:IntKind.max .u16=65535:=by decide
 omega
end Go.Z
