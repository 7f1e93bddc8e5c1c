/- Closed facts of WorksParts. -/
import Derived.Test.YtimdocpnkimlfaaGreatDoorLG
set_option linter.unusedVariables false
set_option linter.unusedSimpArgs false
set_option maxRecDepth 100000
namespace Go.Proofs.YtimdocpnkimlfaaGreatDoor
open Go Go.Abs Go.Z Go.RowKit
theorem j6c:Rows.worksPartsRow.wf (OpenSpec.ofChange Rows.worksPartsSpec)=true:=by kernel_rfl
theorem q77:Tryz.f7.params.all (Tryz.prog.readableRec ·)=true:=by kernel_rfl
theorem jwx:namedTie Tryz.prog Rows.worksPartsRow.named Rows.worksPartsSpec.vars=true:=by kernel_rfl
theorem jbg:(Rows.worksPartsRow.inPlace == Tryz.prog.inPlace 7)=true:=by kernel_rfl
theorem q1j:(Rows.worksPartsRow.unfollowed == Tryz.prog.unfollowed 7)=true:=by kernel_rfl
theorem q74:(Rows.worksPartsRow.recurses == Tryz.prog.recurses 7)=true:=by kernel_rfl
theorem jig:(Rows.worksPartsRow.named == Tryz.prog.varsNamed 7)=true:=by kernel_rfl
theorem c7_named2 : Tryz.prog.funcNamed "woofer/wooferlaw10.WorksParts" = some 7 := by kernel_rfl
theorem jrh:Tryz.f7.isInstance Tryz.prog Rows.worksPartsRow.origin Rows.worksPartsRow.targs:=of_decide_eq_true (by kernel_rfl)
theorem jqp:Tryz.f7.isWrapper Tryz.prog Rows.worksPartsRow.wrapper Rows.worksPartsRow.mainSum:=by
 unfold Func.isWrapper;first|(rw[if_pos (by decide +kernel)];kernel_rfl)|(rw[if_neg (by decide +kernel)];exact⟨rfl,rfl⟩)
theorem jqv:false=Rows.worksPartsRow.goesBy Tryz.prog:=by kernel_rfl
theorem jfz:Rows.worksPartsRow.wfByText (OpenSpec.ofChange Rows.worksPartsSpec)=true:=by kernel_rfl
theorem jfi:joinedFacts Tryz.prog 7 Tryz.f7 Rows.worksPartsSpec Rows.worksPartsRow=true:=
 q0m j6c qxz q8n q77 jwx (by kernel_rfl) q9l (by kernel_rfl) q8o jbg q1j q74 jig
  (by kernel_rfl) (by kernel_rfl) (by kernel_rfl) (by kernel_rfl) (by kernel_rfl) (by kernel_rfl) (by kernel_rfl) (by kernel_rfl) (by kernel_rfl) q9i (by kernel_rfl) q82 q8v q8g jfm (by kernel_rfl) (by kernel_rfl) (by kernel_rfl) (by kernel_rfl)
end Go.Proofs.YtimdocpnkimlfaaGreatDoor
