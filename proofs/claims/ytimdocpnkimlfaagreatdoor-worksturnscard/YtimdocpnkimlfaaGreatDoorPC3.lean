/- Closed facts of WorksTurns. -/
import Derived.Test.YtimdocpnkimlfaaGreatDoorLG
set_option linter.unusedVariables false
set_option linter.unusedSimpArgs false
set_option maxRecDepth 100000
namespace Go.Proofs.YtimdocpnkimlfaaGreatDoor
open Go Go.Abs Go.Z Go.RowKit
theorem j5j:Rows.worksTurnsRow.wf (OpenSpec.ofChange Rows.worksTurnsSpec)=true:=by kernel_rfl
theorem q6i:Tryz.f3.params.all (Tryz.prog.readableRec ·)=true:=by kernel_rfl
theorem jtm:namedTie Tryz.prog Rows.worksTurnsRow.named Rows.worksTurnsSpec.vars=true:=by kernel_rfl
theorem jas:(Rows.worksTurnsRow.inPlace == Tryz.prog.inPlace 3)=true:=by kernel_rfl
theorem q0n:(Rows.worksTurnsRow.unfollowed == Tryz.prog.unfollowed 3)=true:=by kernel_rfl
theorem q6s:(Rows.worksTurnsRow.recurses == Tryz.prog.recurses 3)=true:=by kernel_rfl
theorem jgj:(Rows.worksTurnsRow.named == Tryz.prog.varsNamed 3)=true:=by kernel_rfl
theorem c3_named2 : Tryz.prog.funcNamed "woofer/wooferlaw10.WorksTurns" = some 3 := by kernel_rfl
theorem jng:Tryz.f3.isInstance Tryz.prog Rows.worksTurnsRow.origin Rows.worksTurnsRow.targs:=of_decide_eq_true (by kernel_rfl)
theorem jo4:Tryz.f3.isWrapper Tryz.prog Rows.worksTurnsRow.wrapper Rows.worksTurnsRow.mainSum:=by
 unfold Func.isWrapper;first|(rw[if_pos (by decide +kernel)];kernel_rfl)|(rw[if_neg (by decide +kernel)];exact⟨rfl,rfl⟩)
theorem jne:false=Rows.worksTurnsRow.goesBy Tryz.prog:=by kernel_rfl
theorem jdv:Rows.worksTurnsRow.wfByText (OpenSpec.ofChange Rows.worksTurnsSpec)=true:=by kernel_rfl
theorem jd8:joinedFacts Tryz.prog 3 Tryz.f3 Rows.worksTurnsSpec Rows.worksTurnsRow=true:=
 jcd j5j jcp jmt q6i jtm (by kernel_rfl) jnu (by kernel_rfl) jnf jas q0n q6s jgj
  (by kernel_rfl) (by kernel_rfl) (by kernel_rfl) (by kernel_rfl) (by kernel_rfl) (by kernel_rfl) (by kernel_rfl) (by kernel_rfl) (by kernel_rfl) jow (by kernel_rfl) jpf jny jpp jue (by kernel_rfl) (by kernel_rfl) (by kernel_rfl) (by kernel_rfl)
end Go.Proofs.YtimdocpnkimlfaaGreatDoor
