/- Closed facts of WorksTraces. -/
import Derived.Test.YtfopaakmgogpiaaGreatDoorPY
set_option linter.unusedVariables false
set_option linter.unusedSimpArgs false
set_option maxRecDepth 100000
namespace Go.Proofs.YtfopaakmgogpiaaGreatDoor
open Go Go.Abs Go.Z Go.RowKit
theorem j2v:Rows.worksTracesRow.wf (OpenSpec.ofChange Rows.worksTracesSpec)=true:=by kernel_rfl
theorem q4w:Tryz.f5.params.all (Tryz.prog.readableRec ·)=true:=by kernel_rfl
theorem jo5:namedTie Tryz.prog Rows.worksTracesRow.named Rows.worksTracesSpec.vars=true:=by kernel_rfl
theorem q7s:(Rows.worksTracesRow.inPlace == Tryz.prog.inPlace 5)=true:=by kernel_rfl
theorem q0m:(Rows.worksTracesRow.unfollowed == Tryz.prog.unfollowed 5)=true:=by kernel_rfl
theorem q4p:(Rows.worksTracesRow.recurses == Tryz.prog.recurses 5)=true:=by kernel_rfl
theorem jd7:(Rows.worksTracesRow.named == Tryz.prog.varsNamed 5)=true:=by kernel_rfl
theorem c5_named2 : Tryz.prog.funcNamed "woofer/wooferlaw10.WorksTraces" = some 5 := by kernel_rfl
theorem jkt:Tryz.f5.isInstance Tryz.prog Rows.worksTracesRow.origin Rows.worksTracesRow.targs:=of_decide_eq_true (by kernel_rfl)
theorem jls:Tryz.f5.isWrapper Tryz.prog Rows.worksTracesRow.wrapper Rows.worksTracesRow.mainSum:=by
 unfold Func.isWrapper;first|(rw[if_pos (by decide +kernel)];kernel_rfl)|(rw[if_neg (by decide +kernel)];exact⟨rfl,rfl⟩)
theorem jl4:false=Rows.worksTracesRow.goesBy Tryz.prog:=by kernel_rfl
theorem jba:Rows.worksTracesRow.wfByText (OpenSpec.ofChange Rows.worksTracesSpec)=true:=by kernel_rfl
theorem jbk:joinedFacts Tryz.prog 5 Tryz.f5 Rows.worksTracesSpec Rows.worksTracesRow=true:=
 jcj j2v ja4 jlt q4w jo5 (by kernel_rfl) jlo (by kernel_rfl) jli q7s q0m q4p jd7
  (by kernel_rfl) (by kernel_rfl) (by kernel_rfl) (by kernel_rfl) (by kernel_rfl) (by kernel_rfl) (by kernel_rfl) (by kernel_rfl) (by kernel_rfl) jmq (by kernel_rfl) jj9 jmg jlz jo6 (by kernel_rfl) (by kernel_rfl) (by kernel_rfl) (by kernel_rfl)
end Go.Proofs.YtfopaakmgogpiaaGreatDoor
