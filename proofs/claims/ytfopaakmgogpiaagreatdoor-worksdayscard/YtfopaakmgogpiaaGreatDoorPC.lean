/- Closed facts of WorksDays. -/
import Derived.Test.YtfopaakmgogpiaaGreatDoorPY
set_option maxRecDepth 100000
namespace Go.Proofs.YtfopaakmgogpiaaGreatDoor
open Go Go.Abs Go.Z Go.RowKit
theorem jyg:Rows.worksDaysRow.wf (OpenSpec.ofChange Rows.worksDaysSpec)=true:=by kernel_rfl
theorem q54:Tryz.f4.params.all (Tryz.prog.readableRec ·)=true:=by kernel_rfl
theorem jo5:namedTie Tryz.prog Rows.worksDaysRow.named Rows.worksDaysSpec.vars=true:=by kernel_rfl
theorem q96:(Rows.worksDaysRow.inPlace == Tryz.prog.inPlace 4)=true:=by kernel_rfl
theorem q0x:(Rows.worksDaysRow.unfollowed == Tryz.prog.unfollowed 4)=true:=by kernel_rfl
theorem q6d:(Rows.worksDaysRow.recurses == Tryz.prog.recurses 4)=true:=by kernel_rfl
theorem jfw:(Rows.worksDaysRow.named == Tryz.prog.varsNamed 4)=true:=by kernel_rfl
theorem c4_named2 : Tryz.prog.funcNamed "woofer/wooferlaw10.WorksDays" = some 4 := by kernel_rfl
theorem jnc:Tryz.f4.isInstance Tryz.prog Rows.worksDaysRow.origin Rows.worksDaysRow.targs:=of_decide_eq_true (by kernel_rfl)
theorem jkz:Tryz.f4.isWrapper Tryz.prog Rows.worksDaysRow.wrapper Rows.worksDaysRow.mainSum:=by
 unfold Func.isWrapper;first|(rw[if_pos (by decide +kernel)];kernel_rfl)|(rw[if_neg (by decide +kernel)];exact⟨rfl,rfl⟩)
theorem jl3:false=Rows.worksDaysRow.goesBy Tryz.prog:=by kernel_rfl
theorem jdg:Rows.worksDaysRow.wfByText (OpenSpec.ofChange Rows.worksDaysSpec)=true:=by kernel_rfl
theorem jch:joinedFacts Tryz.prog 4 Tryz.f4 Rows.worksDaysSpec Rows.worksDaysRow=true:=
 jb2 jyg jbi jl1 q54 jo5 (by kernel_rfl) jlr (by kernel_rfl) jlq q96 q0x q6d jfw
  (by kernel_rfl) (by kernel_rfl) (by kernel_rfl) (by kernel_rfl) (by kernel_rfl) (by kernel_rfl) (by kernel_rfl) (by kernel_rfl) (by kernel_rfl) jm0 (by kernel_rfl) jlu jmz jlj jo8 (by kernel_rfl) (by kernel_rfl) (by kernel_rfl) (by kernel_rfl)
end Go.Proofs.YtfopaakmgogpiaaGreatDoor
