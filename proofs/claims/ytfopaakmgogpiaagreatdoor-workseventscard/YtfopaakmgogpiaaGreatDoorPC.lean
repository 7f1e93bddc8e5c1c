/- Closed facts of WorksEvents. -/
import Derived.Test.YtfopaakmgogpiaaGreatDoorPX
set_option linter.unusedVariables false
set_option linter.unusedSimpArgs false
set_option maxRecDepth 100000
namespace Go.Proofs.YtfopaakmgogpiaaGreatDoor
open Go Go.Abs Go.Z Go.RowKit
theorem j6c:Rows.worksEventsRow.wf (OpenSpec.ofChange Rows.worksEventsSpec)=true:=by kernel_rfl
theorem q6b:Tryz.f3.params.all (Tryz.prog.readableRec ·)=true:=by kernel_rfl
theorem jo9:namedTie Tryz.prog Rows.worksEventsRow.named Rows.worksEventsSpec.vars=true:=by kernel_rfl
theorem q8c:(Rows.worksEventsRow.inPlace == Tryz.prog.inPlace 3)=true:=by kernel_rfl
theorem q00:(Rows.worksEventsRow.unfollowed == Tryz.prog.unfollowed 3)=true:=by kernel_rfl
theorem q52:(Rows.worksEventsRow.recurses == Tryz.prog.recurses 3)=true:=by kernel_rfl
theorem jdq:(Rows.worksEventsRow.named == Tryz.prog.varsNamed 3)=true:=by kernel_rfl
theorem c3_named2 : Tryz.prog.funcNamed "woofer/wooferlaw10.WorksEvents" = some 3 := by kernel_rfl
theorem jnk:Tryz.f3.isInstance Tryz.prog Rows.worksEventsRow.origin Rows.worksEventsRow.targs:=of_decide_eq_true (by kernel_rfl)
theorem jk1:Tryz.f3.isWrapper Tryz.prog Rows.worksEventsRow.wrapper Rows.worksEventsRow.mainSum:=by
 unfold Func.isWrapper;first|(rw[if_pos (by decide +kernel)];kernel_rfl)|(rw[if_neg (by decide +kernel)];exact⟨rfl,rfl⟩)
theorem jmw:false=Rows.worksEventsRow.goesBy Tryz.prog:=by kernel_rfl
theorem ja0:Rows.worksEventsRow.wfByText (OpenSpec.ofChange Rows.worksEventsSpec)=true:=by kernel_rfl
theorem jb5:joinedFacts Tryz.prog 3 Tryz.f3 Rows.worksEventsSpec Rows.worksEventsRow=true:=
 jdc j6c ja8 jm6 q6b jo9 (by kernel_rfl) jlq (by kernel_rfl) jlx q8c q00 q52 jdq
  (by kernel_rfl) (by kernel_rfl) (by kernel_rfl) (by kernel_rfl) (by kernel_rfl) (by kernel_rfl) (by kernel_rfl) (by kernel_rfl) (by kernel_rfl) jls (by kernel_rfl) jm0 jlh jm2 jpm (by kernel_rfl) (by kernel_rfl) (by kernel_rfl) (by kernel_rfl)
end Go.Proofs.YtfopaakmgogpiaaGreatDoor
