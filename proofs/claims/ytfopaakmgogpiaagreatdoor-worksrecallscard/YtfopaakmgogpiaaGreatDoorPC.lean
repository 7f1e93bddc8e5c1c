/- Closed facts of WorksRecalls. -/
import Derived.Test.YtfopaakmgogpiaaGreatDoorPY
set_option linter.unusedVariables false
set_option linter.unusedSimpArgs false
set_option maxRecDepth 100000
namespace Go.Proofs.YtfopaakmgogpiaaGreatDoor
open Go Go.Abs Go.Z Go.RowKit
theorem j57:Rows.worksRecallsRow.wf (OpenSpec.ofChange Rows.worksRecallsSpec)=true:=by kernel_rfl
theorem q6q:Tryz.f6.params.all (Tryz.prog.readableRec ·)=true:=by kernel_rfl
theorem jr3:namedTie Tryz.prog Rows.worksRecallsRow.named Rows.worksRecallsSpec.vars=true:=by kernel_rfl
theorem q9o:(Rows.worksRecallsRow.inPlace == Tryz.prog.inPlace 6)=true:=by kernel_rfl
theorem q1l:(Rows.worksRecallsRow.unfollowed == Tryz.prog.unfollowed 6)=true:=by kernel_rfl
theorem q6i:(Rows.worksRecallsRow.recurses == Tryz.prog.recurses 6)=true:=by kernel_rfl
theorem jkp:(Rows.worksRecallsRow.named == Tryz.prog.varsNamed 6)=true:=by kernel_rfl
theorem c6_named2 : Tryz.prog.funcNamed "woofer/wooferlaw10.WorksRecalls" = some 6 := by kernel_rfl
theorem jmj:Tryz.f6.isInstance Tryz.prog Rows.worksRecallsRow.origin Rows.worksRecallsRow.targs:=of_decide_eq_true (by kernel_rfl)
theorem jm8:Tryz.f6.isWrapper Tryz.prog Rows.worksRecallsRow.wrapper Rows.worksRecallsRow.mainSum:=by
 unfold Func.isWrapper;first|(rw[if_pos (by decide +kernel)];kernel_rfl)|(rw[if_neg (by decide +kernel)];exact⟨rfl,rfl⟩)
theorem jms:false=Rows.worksRecallsRow.goesBy Tryz.prog:=by kernel_rfl
theorem jdy:Rows.worksRecallsRow.wfByText (OpenSpec.ofChange Rows.worksRecallsSpec)=true:=by kernel_rfl
theorem jdl:joinedFacts Tryz.prog 6 Tryz.f6 Rows.worksRecallsSpec Rows.worksRecallsRow=true:=
 jcw j57 jc4 jnt q6q jr3 (by kernel_rfl) jnn (by kernel_rfl) jns q9o q1l q6i jkp
  (by kernel_rfl) (by kernel_rfl) (by kernel_rfl) (by kernel_rfl) (by kernel_rfl) (by kernel_rfl) (by kernel_rfl) (by kernel_rfl) (by kernel_rfl) jpa (by kernel_rfl) jnz jn4 jo3 jrk (by kernel_rfl) (by kernel_rfl) (by kernel_rfl) (by kernel_rfl)
end Go.Proofs.YtfopaakmgogpiaaGreatDoor
