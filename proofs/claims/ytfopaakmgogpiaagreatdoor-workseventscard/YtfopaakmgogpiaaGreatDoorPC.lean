/- Closed facts of WorksEvents. -/
import Derived.Test.YtfopaakmgogpiaaGreatDoorPX
set_option linter.unusedVariables false
set_option linter.unusedSimpArgs false
set_option maxRecDepth 100000
namespace Go.Proofs.YtfopaakmgogpiaaGreatDoor
open Go Go.Abs Go.Z Go.RowKit
theorem jzy:Rows.worksEventsRow.wf (OpenSpec.ofChange Rows.worksEventsSpec)=true:=by kernel_rfl
theorem q5o:Tryz.f3.params.all (Tryz.prog.readableRec ·)=true:=by kernel_rfl
theorem jpw:namedTie Tryz.prog Rows.worksEventsRow.named Rows.worksEventsSpec.vars=true:=by kernel_rfl
theorem q82:(Rows.worksEventsRow.inPlace == Tryz.prog.inPlace 3)=true:=by kernel_rfl
theorem q0z:(Rows.worksEventsRow.unfollowed == Tryz.prog.unfollowed 3)=true:=by kernel_rfl
theorem q5l:(Rows.worksEventsRow.recurses == Tryz.prog.recurses 3)=true:=by kernel_rfl
theorem jfr:(Rows.worksEventsRow.named == Tryz.prog.varsNamed 3)=true:=by kernel_rfl
theorem c3_named2 : Tryz.prog.funcNamed "woofer/wooferlaw10.WorksEvents" = some 3 := by kernel_rfl
theorem jk2:Tryz.f3.isInstance Tryz.prog Rows.worksEventsRow.origin Rows.worksEventsRow.targs:=of_decide_eq_true (by kernel_rfl)
theorem jl8:Tryz.f3.isWrapper Tryz.prog Rows.worksEventsRow.wrapper Rows.worksEventsRow.mainSum:=by
 unfold Func.isWrapper;first|(rw[if_pos (by decide +kernel)];kernel_rfl)|(rw[if_neg (by decide +kernel)];exact⟨rfl,rfl⟩)
theorem jmj:false=Rows.worksEventsRow.goesBy Tryz.prog:=by kernel_rfl
theorem jcg:Rows.worksEventsRow.wfByText (OpenSpec.ofChange Rows.worksEventsSpec)=true:=by kernel_rfl
theorem jbd:joinedFacts Tryz.prog 3 Tryz.f3 Rows.worksEventsSpec Rows.worksEventsRow=true:=
 ja6 jzy jaq jkh q5o jpw (by kernel_rfl) jkm (by kernel_rfl) jl1 q82 q0z q5l jfr
  (by kernel_rfl) (by kernel_rfl) (by kernel_rfl) (by kernel_rfl) (by kernel_rfl) (by kernel_rfl) (by kernel_rfl) (by kernel_rfl) (by kernel_rfl) jl0 (by kernel_rfl) jlb jlj jmp jph (by kernel_rfl) (by kernel_rfl) (by kernel_rfl) (by kernel_rfl)
end Go.Proofs.YtfopaakmgogpiaaGreatDoor
