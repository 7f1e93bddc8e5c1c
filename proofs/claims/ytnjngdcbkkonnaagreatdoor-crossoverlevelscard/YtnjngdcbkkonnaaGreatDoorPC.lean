/-
  Closed facts of CrossoverLevels. No conditions.
-/
import Derived.Test.YtnjngdcbkkonnaaGreatDoorPX
set_option linter.unusedVariables false
set_option linter.unusedSimpArgs false
set_option maxRecDepth 100000
namespace Go.Proofs.YtnjngdcbkkonnaaGreatDoor
open Go Go.Abs Go.Z Go.RowKit
theorem c4_wf:Rows.crossoverLevelsRow.wf (OpenSpec.ofChange Rows.crossoverLevelsSpec)=true:=by kernel_rfl
theorem c4_readable:Tryz.f4.params.all (Tryz.prog.readableRec ·)=true:=by kernel_rfl
theorem c4_tie:namedTie Tryz.prog Rows.crossoverLevelsRow.named Rows.crossoverLevelsSpec.vars=true:=by kernel_rfl
theorem c4_inPlace:(Rows.crossoverLevelsRow.inPlace == Tryz.prog.inPlace 4)=true:=by kernel_rfl
theorem c4_unfollowed:(Rows.crossoverLevelsRow.unfollowed == Tryz.prog.unfollowed 4)=true:=by kernel_rfl
theorem c4_recurses:(Rows.crossoverLevelsRow.recurses == Tryz.prog.recurses 4)=true:=by kernel_rfl
theorem c4_named:(Rows.crossoverLevelsRow.named == Tryz.prog.varsNamed 4)=true:=by kernel_rfl
theorem c4_named2 : Tryz.prog.funcNamed "woofer/wooferlaw04.CrossoverLevels" = some 4 := by kernel_rfl
theorem c4_inst:Tryz.f4.isInstance Tryz.prog Rows.crossoverLevelsRow.origin Rows.crossoverLevelsRow.targs:=of_decide_eq_true (by kernel_rfl)
theorem c4_wrap:Tryz.f4.isWrapper Tryz.prog Rows.crossoverLevelsRow.wrapper Rows.crossoverLevelsRow.mainSum:=by
 unfold Func.isWrapper; first | (rw [if_pos (by decide +kernel)]; kernel_rfl) | (rw [if_neg (by decide +kernel)]; exact ⟨rfl,rfl⟩)
theorem c4_goes:false=Rows.crossoverLevelsRow.goesBy Tryz.prog:=by kernel_rfl
theorem c4_wfText:Rows.crossoverLevelsRow.wfByText (OpenSpec.ofChange Rows.crossoverLevelsSpec)=true:=by kernel_rfl
theorem c4_closed:joinedFacts Tryz.prog 4 Tryz.f4 Rows.crossoverLevelsSpec Rows.crossoverLevelsRow=true:=
 joined_of c4_wf z_laid x_rowed c4_readable c4_tie (by kernel_rfl) x_stops (by kernel_rfl) x_knobs c4_inPlace c4_unfollowed c4_recurses c4_named
  (by kernel_rfl) (by kernel_rfl) (by kernel_rfl) (by kernel_rfl) (by kernel_rfl) (by kernel_rfl) (by kernel_rfl) (by kernel_rfl) (by kernel_rfl) x_plain (by kernel_rfl) x_heard x_enter x_lifts x_make (by kernel_rfl) (by kernel_rfl) (by kernel_rfl) (by kernel_rfl)
end Go.Proofs.YtnjngdcbkkonnaaGreatDoor
