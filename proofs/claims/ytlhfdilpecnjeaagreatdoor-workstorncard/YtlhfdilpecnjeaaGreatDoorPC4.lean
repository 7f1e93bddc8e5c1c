/- Closed facts of WorksTorn. -/
import Derived.Test.YtlhfdilpecnjeaaGreatDoorLG
set_option linter.unusedVariables false
set_option linter.unusedSimpArgs false
set_option maxRecDepth 100000
namespace Go.Proofs.YtlhfdilpecnjeaaGreatDoor
open Go Go.Abs Go.Z Go.RowKit
theorem j8a:Rows.worksTornRow.wf (OpenSpec.ofChange Rows.worksTornSpec)=true:=by kernel_rfl
theorem jar:Tryz.f4.params.all (Tryz.prog.readableRec ·)=true:=by kernel_rfl
theorem jyi:namedTie Tryz.prog Rows.worksTornRow.named Rows.worksTornSpec.vars=true:=by kernel_rfl
theorem jf2:(Rows.worksTornRow.inPlace == Tryz.prog.inPlace 4)=true:=by kernel_rfl
theorem q49:(Rows.worksTornRow.unfollowed == Tryz.prog.unfollowed 4)=true:=by kernel_rfl
theorem jbk:(Rows.worksTornRow.recurses == Tryz.prog.recurses 4)=true:=by kernel_rfl
theorem jm6:(Rows.worksTornRow.named == Tryz.prog.varsNamed 4)=true:=by kernel_rfl
theorem c4_named2 : Tryz.prog.funcNamed "woofer/wooferlaw10.WorksTorn" = some 4 := by kernel_rfl
theorem jux:Tryz.f4.isInstance Tryz.prog Rows.worksTornRow.origin Rows.worksTornRow.targs:=of_decide_eq_true (by kernel_rfl)
theorem jr4:Tryz.f4.isWrapper Tryz.prog Rows.worksTornRow.wrapper Rows.worksTornRow.mainSum:=by
 unfold Func.isWrapper;first|(rw[if_pos (by decide +kernel)];kernel_rfl)|(rw[if_neg (by decide +kernel)];exact⟨rfl,rfl⟩)
theorem js6:false=Rows.worksTornRow.goesBy Tryz.prog:=by kernel_rfl
theorem jh7:Rows.worksTornRow.wfByText (OpenSpec.ofChange Rows.worksTornSpec)=true:=by kernel_rfl
theorem jjb:joinedFacts Tryz.prog 4 Tryz.f4 Rows.worksTornSpec Rows.worksTornRow=true:=
 jj0 j8a jhr js4 jar jyi (by kernel_rfl) jug (by kernel_rfl) jtc jf2 q49 jbk jm6
  (by kernel_rfl) (by kernel_rfl) (by kernel_rfl) (by kernel_rfl) (by kernel_rfl) (by kernel_rfl) (by kernel_rfl) (by kernel_rfl) (by kernel_rfl) jro (by kernel_rfl) jsc jsz jrw j03 (by kernel_rfl) (by kernel_rfl) (by kernel_rfl) (by kernel_rfl)
end Go.Proofs.YtlhfdilpecnjeaaGreatDoor
