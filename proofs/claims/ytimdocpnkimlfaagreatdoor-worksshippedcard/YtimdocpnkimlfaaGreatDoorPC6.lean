/- Closed facts of WorksShipped. -/
import Derived.Test.YtimdocpnkimlfaaGreatDoorLG
set_option linter.unusedVariables false
set_option linter.unusedSimpArgs false
set_option maxRecDepth 100000
namespace Go.Proofs.YtimdocpnkimlfaaGreatDoor
open Go Go.Abs Go.Z Go.RowKit
theorem j1z:Rows.worksShippedRow.wf (OpenSpec.ofChange Rows.worksShippedSpec)=true:=by kernel_rfl
theorem q7m:Tryz.f6.params.all (Tryz.prog.readableRec ·)=true:=by kernel_rfl
theorem juo:namedTie Tryz.prog Rows.worksShippedRow.named Rows.worksShippedSpec.vars=true:=by kernel_rfl
theorem jc8:(Rows.worksShippedRow.inPlace == Tryz.prog.inPlace 6)=true:=by kernel_rfl
theorem q06:(Rows.worksShippedRow.unfollowed == Tryz.prog.unfollowed 6)=true:=by kernel_rfl
theorem q76:(Rows.worksShippedRow.recurses == Tryz.prog.recurses 6)=true:=by kernel_rfl
theorem jhw:(Rows.worksShippedRow.named == Tryz.prog.varsNamed 6)=true:=by kernel_rfl
theorem c6_named2 : Tryz.prog.funcNamed "woofer/wooferlaw10.WorksShipped" = some 6 := by kernel_rfl
theorem jp0:Tryz.f6.isInstance Tryz.prog Rows.worksShippedRow.origin Rows.worksShippedRow.targs:=of_decide_eq_true (by kernel_rfl)
theorem jrw:Tryz.f6.isWrapper Tryz.prog Rows.worksShippedRow.wrapper Rows.worksShippedRow.mainSum:=by
 unfold Func.isWrapper;first|(rw[if_pos (by decide +kernel)];kernel_rfl)|(rw[if_neg (by decide +kernel)];exact⟨rfl,rfl⟩)
theorem jqj:false=Rows.worksShippedRow.goesBy Tryz.prog:=by kernel_rfl
theorem jgp:Rows.worksShippedRow.wfByText (OpenSpec.ofChange Rows.worksShippedSpec)=true:=by kernel_rfl
theorem jgx:joinedFacts Tryz.prog 6 Tryz.f6 Rows.worksShippedSpec Rows.worksShippedRow=true:=
 q0m j1z qxz q8n q7m juo (by kernel_rfl) q9l (by kernel_rfl) q8o jc8 q06 q76 jhw
  (by kernel_rfl) (by kernel_rfl) (by kernel_rfl) (by kernel_rfl) (by kernel_rfl) (by kernel_rfl) (by kernel_rfl) (by kernel_rfl) (by kernel_rfl) q9i (by kernel_rfl) q82 q8v q8g jfm (by kernel_rfl) (by kernel_rfl) (by kernel_rfl) (by kernel_rfl)
end Go.Proofs.YtimdocpnkimlfaaGreatDoor
