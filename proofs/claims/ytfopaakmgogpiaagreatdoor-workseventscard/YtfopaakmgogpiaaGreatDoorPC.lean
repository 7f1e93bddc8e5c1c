/- Closed facts of WorksEvents. -/
import Derived.Test.YtfopaakmgogpiaaGreatDoorPY
set_option linter.unusedVariables false
set_option linter.unusedSimpArgs false
set_option maxRecDepth 100000
namespace Go.Proofs.YtfopaakmgogpiaaGreatDoor
open Go Go.Abs Go.Z Go.RowKit
theorem jve:Rows.worksEventsRow.wf (OpenSpec.ofChange Rows.worksEventsSpec)=true:=by kernel_rfl
theorem q46:Tryz.f3.params.all (Tryz.prog.readableRec ·)=true:=by kernel_rfl
theorem jnl:namedTie Tryz.prog Rows.worksEventsRow.named Rows.worksEventsSpec.vars=true:=by kernel_rfl
theorem q63:(Rows.worksEventsRow.inPlace == Tryz.prog.inPlace 3)=true:=by kernel_rfl
theorem q05:(Rows.worksEventsRow.unfollowed == Tryz.prog.unfollowed 3)=true:=by kernel_rfl
theorem q4v:(Rows.worksEventsRow.recurses == Tryz.prog.recurses 3)=true:=by kernel_rfl
theorem je4:(Rows.worksEventsRow.named == Tryz.prog.varsNamed 3)=true:=by kernel_rfl
theorem c3_named2 : Tryz.prog.funcNamed "woofer/wooferlaw10.WorksEvents" = some 3 := by kernel_rfl
theorem jg5:Tryz.f3.isInstance Tryz.prog Rows.worksEventsRow.origin Rows.worksEventsRow.targs:=of_decide_eq_true (by kernel_rfl)
theorem ji4:Tryz.f3.isWrapper Tryz.prog Rows.worksEventsRow.wrapper Rows.worksEventsRow.mainSum:=by
 unfold Func.isWrapper;first|(rw[if_pos (by decide +kernel)];kernel_rfl)|(rw[if_neg (by decide +kernel)];exact⟨rfl,rfl⟩)
theorem jhk:false=Rows.worksEventsRow.goesBy Tryz.prog:=by kernel_rfl
theorem jbh:Rows.worksEventsRow.wfByText (OpenSpec.ofChange Rows.worksEventsSpec)=true:=by kernel_rfl
theorem q91:joinedFacts Tryz.prog 3 Tryz.f3 Rows.worksEventsSpec Rows.worksEventsRow=true:=
 q93 jve jbz jis q46 jnl (by kernel_rfl) jh9 (by kernel_rfl) ji3 q63 q05 q4v je4
  (by kernel_rfl) (by kernel_rfl) (by kernel_rfl) (by kernel_rfl) (by kernel_rfl) (by kernel_rfl) (by kernel_rfl) (by kernel_rfl) (by kernel_rfl) jia (by kernel_rfl) jh1 jgz jht jk1 (by kernel_rfl) (by kernel_rfl) (by kernel_rfl) (by kernel_rfl)
end Go.Proofs.YtfopaakmgogpiaaGreatDoor
