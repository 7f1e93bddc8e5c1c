/- Closed facts of WorksRecalled. -/
import Derived.Test.YtimdocpnkimlfaaGreatDoorLG
set_option linter.unusedVariables false
set_option linter.unusedSimpArgs false
set_option maxRecDepth 100000
namespace Go.Proofs.YtimdocpnkimlfaaGreatDoor
open Go Go.Abs Go.Z Go.RowKit
theorem j26:Rows.worksRecalledRow.wf (OpenSpec.ofChange Rows.worksRecalledSpec)=true:=by kernel_rfl
theorem q65:Tryz.f5.params.all (Tryz.prog.readableRec ·)=true:=by kernel_rfl
theorem jxi:namedTie Tryz.prog Rows.worksRecalledRow.named Rows.worksRecalledSpec.vars=true:=by kernel_rfl
theorem q9s:(Rows.worksRecalledRow.inPlace == Tryz.prog.inPlace 5)=true:=by kernel_rfl
theorem q0j:(Rows.worksRecalledRow.unfollowed == Tryz.prog.unfollowed 5)=true:=by kernel_rfl
theorem q7g:(Rows.worksRecalledRow.recurses == Tryz.prog.recurses 5)=true:=by kernel_rfl
theorem jit:(Rows.worksRecalledRow.named == Tryz.prog.varsNamed 5)=true:=by kernel_rfl
theorem c5_named2 : Tryz.prog.funcNamed "woofer/wooferlaw10.WorksRecalled" = some 5 := by kernel_rfl
theorem jpx:Tryz.f5.isInstance Tryz.prog Rows.worksRecalledRow.origin Rows.worksRecalledRow.targs:=of_decide_eq_true (by kernel_rfl)
theorem jpo:Tryz.f5.isWrapper Tryz.prog Rows.worksRecalledRow.wrapper Rows.worksRecalledRow.mainSum:=by
 unfold Func.isWrapper;first|(rw[if_pos (by decide +kernel)];kernel_rfl)|(rw[if_neg (by decide +kernel)];exact⟨rfl,rfl⟩)
theorem jqi:false=Rows.worksRecalledRow.goesBy Tryz.prog:=by kernel_rfl
theorem jfd:Rows.worksRecalledRow.wfByText (OpenSpec.ofChange Rows.worksRecalledSpec)=true:=by kernel_rfl
theorem je5:joinedFacts Tryz.prog 5 Tryz.f5 Rows.worksRecalledSpec Rows.worksRecalledRow=true:=
 jez j26 jdo joa q65 jxi (by kernel_rfl) joc (by kernel_rfl) jph q9s q0j q7g jit
  (by kernel_rfl) (by kernel_rfl) (by kernel_rfl) (by kernel_rfl) (by kernel_rfl) (by kernel_rfl) (by kernel_rfl) (by kernel_rfl) (by kernel_rfl) jpd (by kernel_rfl) jod jpz job jtz (by kernel_rfl) (by kernel_rfl) (by kernel_rfl) (by kernel_rfl)
end Go.Proofs.YtimdocpnkimlfaaGreatDoor
