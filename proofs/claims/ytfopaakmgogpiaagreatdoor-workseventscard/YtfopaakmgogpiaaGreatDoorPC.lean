/- Closed facts of WorksEvents. -/
import Derived.Test.YtfopaakmgogpiaaGreatDoorPX
set_option linter.unusedVariables false
set_option linter.unusedSimpArgs false
set_option maxRecDepth 100000
namespace Go.Proofs.YtfopaakmgogpiaaGreatDoor
open Go Go.Abs Go.Z Go.RowKit
theorem j0t:Rows.worksEventsRow.wf (OpenSpec.ofChange Rows.worksEventsSpec)=true:=by kernel_rfl
theorem q4i:Tryz.f3.params.all (Tryz.prog.readableRec ·)=true:=by kernel_rfl
theorem jpq:namedTie Tryz.prog Rows.worksEventsRow.named Rows.worksEventsSpec.vars=true:=by kernel_rfl
theorem q58:(Rows.worksEventsRow.inPlace == Tryz.prog.inPlace 3)=true:=by kernel_rfl
theorem qzc:(Rows.worksEventsRow.unfollowed == Tryz.prog.unfollowed 3)=true:=by kernel_rfl
theorem q3r:(Rows.worksEventsRow.recurses == Tryz.prog.recurses 3)=true:=by kernel_rfl
theorem jbv:(Rows.worksEventsRow.named == Tryz.prog.varsNamed 3)=true:=by kernel_rfl
theorem c3_named2 : Tryz.prog.funcNamed "woofer/wooferlaw10.WorksEvents" = some 3 := by kernel_rfl
theorem jkw:Tryz.f3.isInstance Tryz.prog Rows.worksEventsRow.origin Rows.worksEventsRow.targs:=of_decide_eq_true (by kernel_rfl)
theorem jj6:Tryz.f3.isWrapper Tryz.prog Rows.worksEventsRow.wrapper Rows.worksEventsRow.mainSum:=by
 unfold Func.isWrapper; first | (rw [if_pos (by decide +kernel)]; kernel_rfl) | (rw [if_neg (by decide +kernel)]; exact ⟨rfl,rfl⟩)
theorem jj2:false=Rows.worksEventsRow.goesBy Tryz.prog:=by kernel_rfl
theorem jan:Rows.worksEventsRow.wfByText (OpenSpec.ofChange Rows.worksEventsSpec)=true:=by kernel_rfl
theorem jam:joinedFacts Tryz.prog 3 Tryz.f3 Rows.worksEventsSpec Rows.worksEventsRow=true:=
 q9h j0t jbj ji8 q4i jpq (by kernel_rfl) jj5 (by kernel_rfl) jla q58 qzc q3r jbv
  (by kernel_rfl) (by kernel_rfl) (by kernel_rfl) (by kernel_rfl) (by kernel_rfl) (by kernel_rfl) (by kernel_rfl) (by kernel_rfl) (by kernel_rfl) jjp (by kernel_rfl) ji9 jki jld jm6 (by kernel_rfl) (by kernel_rfl) (by kernel_rfl) (by kernel_rfl)
end Go.Proofs.YtfopaakmgogpiaaGreatDoor
