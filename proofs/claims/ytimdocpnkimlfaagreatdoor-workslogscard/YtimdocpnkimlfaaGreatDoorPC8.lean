/- Closed facts of WorksLogs. -/
import Derived.Test.YtimdocpnkimlfaaGreatDoorLG
set_option linter.unusedVariables false
set_option linter.unusedSimpArgs false
set_option maxRecDepth 100000
namespace Go.Proofs.YtimdocpnkimlfaaGreatDoor
open Go Go.Abs Go.Z Go.RowKit
theorem jmp:Rows.worksLogsRow.wf (OpenSpec.ofChange Rows.worksLogsSpec)=true:=by kernel_rfl
theorem q0g:Tryz.f8.params.all (Tryz.prog.readableRec ·)=true:=by kernel_rfl
theorem jgt:namedTie Tryz.prog Rows.worksLogsRow.named Rows.worksLogsSpec.vars=true:=by kernel_rfl
theorem q31:(Rows.worksLogsRow.inPlace == Tryz.prog.inPlace 8)=true:=by kernel_rfl
theorem qu4:(Rows.worksLogsRow.unfollowed == Tryz.prog.unfollowed 8)=true:=by kernel_rfl
theorem qzu:(Rows.worksLogsRow.recurses == Tryz.prog.recurses 8)=true:=by kernel_rfl
theorem q8a:(Rows.worksLogsRow.named == Tryz.prog.varsNamed 8)=true:=by kernel_rfl
theorem c8_named2 : Tryz.prog.funcNamed "woofer/wooferlaw10.WorksLogs" = some 8 := by kernel_rfl
theorem jd1:Tryz.f8.isInstance Tryz.prog Rows.worksLogsRow.origin Rows.worksLogsRow.targs:=of_decide_eq_true (by kernel_rfl)
theorem jdw:Tryz.f8.isWrapper Tryz.prog Rows.worksLogsRow.wrapper Rows.worksLogsRow.mainSum:=by
 unfold Func.isWrapper;first|(rw[if_pos (by decide +kernel)];kernel_rfl)|(rw[if_neg (by decide +kernel)];exact⟨rfl,rfl⟩)
theorem jdq:false=Rows.worksLogsRow.goesBy Tryz.prog:=by kernel_rfl
theorem q53:Rows.worksLogsRow.wfByText (OpenSpec.ofChange Rows.worksLogsSpec)=true:=by kernel_rfl
theorem q6q:joinedFacts Tryz.prog 8 Tryz.f8 Rows.worksLogsSpec Rows.worksLogsRow=true:=
 q49 jmp q4x jdo q0g jgt (by kernel_rfl) jd7 (by kernel_rfl) jet q31 qu4 qzu q8a
  (by kernel_rfl) (by kernel_rfl) (by kernel_rfl) (by kernel_rfl) (by kernel_rfl) (by kernel_rfl) (by kernel_rfl) (by kernel_rfl) (by kernel_rfl) jff (by kernel_rfl) jed je2 je5 jf4 (by kernel_rfl) (by kernel_rfl) (by kernel_rfl) (by kernel_rfl)
end Go.Proofs.YtimdocpnkimlfaaGreatDoor
