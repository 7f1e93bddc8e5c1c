/- Closed facts of TopConeAll. -/
import Derived.Test.YthpnjcfibpfbfaaGreatDoorLG
set_option linter.unusedVariables false
set_option linter.unusedSimpArgs false
set_option maxRecDepth 100000
namespace Go.Proofs.YthpnjcfibpfbfaaGreatDoor
open Go Go.Abs Go.Z Go.RowKit
theorem q4i:Rows.topConeAllRow.wf (OpenSpec.ofChange Rows.topConeAllSpec)=true:=by kernel_rfl
theorem qqb:Tryz.f4.params.all (Tryz.prog.readableRec ·)=true:=by kernel_rfl
theorem q0i:namedTie Tryz.prog Rows.topConeAllRow.named Rows.topConeAllSpec.vars=true:=by kernel_rfl
theorem qrd:(Rows.topConeAllRow.inPlace == Tryz.prog.inPlace 4)=true:=by kernel_rfl
theorem qms:(Rows.topConeAllRow.unfollowed == Tryz.prog.unfollowed 4)=true:=by kernel_rfl
theorem qpz:(Rows.topConeAllRow.recurses == Tryz.prog.recurses 4)=true:=by kernel_rfl
theorem qwj:(Rows.topConeAllRow.named == Tryz.prog.varsNamed 4)=true:=by kernel_rfl
theorem c4_named2 : Tryz.prog.funcNamed "woofer/woofertop.TopConeAll" = some 4 := by kernel_rfl
theorem qyk:Tryz.f4.isInstance Tryz.prog Rows.topConeAllRow.origin Rows.topConeAllRow.targs:=of_decide_eq_true (by kernel_rfl)
theorem qxp:Tryz.f4.isWrapper Tryz.prog Rows.topConeAllRow.wrapper Rows.topConeAllRow.mainSum:=by
 unfold Func.isWrapper;first|(rw[if_pos (by decide +kernel)];kernel_rfl)|(rw[if_neg (by decide +kernel)];exact⟨rfl,rfl⟩)
theorem qyt:false=Rows.topConeAllRow.goesBy Tryz.prog:=by kernel_rfl
theorem qtq:Rows.topConeAllRow.wfByText (OpenSpec.ofChange Rows.topConeAllSpec)=true:=by kernel_rfl
theorem qt3:joinedFacts Tryz.prog 4 Tryz.f4 Rows.topConeAllSpec Rows.topConeAllRow=true:=
 qtc q4i qt1 qx8 qqb q0i (by kernel_rfl) qxq (by kernel_rfl) qxy qrd qms qpz qwj
  (by kernel_rfl) (by kernel_rfl) (by kernel_rfl) (by kernel_rfl) (by kernel_rfl) (by kernel_rfl) (by kernel_rfl) (by kernel_rfl) (by kernel_rfl) qx4 (by kernel_rfl) qxr qyl qyc q1o (by kernel_rfl) (by kernel_rfl) (by kernel_rfl) (by kernel_rfl)
end Go.Proofs.YthpnjcfibpfbfaaGreatDoor
