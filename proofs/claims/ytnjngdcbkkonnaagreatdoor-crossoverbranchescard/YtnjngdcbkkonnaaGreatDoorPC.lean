/-
  Closed facts of CrossoverBranches. No conditions.
-/
import Derived.Test.YtnjngdcbkkonnaaGreatDoorPX
set_option linter.unusedVariables false
set_option linter.unusedSimpArgs false
set_option maxRecDepth 100000
namespace Go.Proofs.YtnjngdcbkkonnaaGreatDoor
open Go Go.Abs Go.Z Go.RowKit
theorem c8_wf:Rows.crossoverBranchesRow.wf (OpenSpec.ofChange Rows.crossoverBranchesSpec)=true:=by kernel_rfl
theorem c8_readable:Tryz.f8.params.all (Tryz.prog.readableRec ·)=true:=by kernel_rfl
theorem c8_tie:namedTie Tryz.prog Rows.crossoverBranchesRow.named Rows.crossoverBranchesSpec.vars=true:=by kernel_rfl
theorem c8_inPlace:(Rows.crossoverBranchesRow.inPlace == Tryz.prog.inPlace 8)=true:=by kernel_rfl
theorem c8_unfollowed:(Rows.crossoverBranchesRow.unfollowed == Tryz.prog.unfollowed 8)=true:=by kernel_rfl
theorem c8_recurses:(Rows.crossoverBranchesRow.recurses == Tryz.prog.recurses 8)=true:=by kernel_rfl
theorem c8_named:(Rows.crossoverBranchesRow.named == Tryz.prog.varsNamed 8)=true:=by kernel_rfl
theorem c8_named2 : Tryz.prog.funcNamed "woofer/wooferlaw04.CrossoverBranches" = some 8 := by kernel_rfl
theorem c8_inst:Tryz.f8.isInstance Tryz.prog Rows.crossoverBranchesRow.origin Rows.crossoverBranchesRow.targs:=of_decide_eq_true (by kernel_rfl)
theorem c8_wrap:Tryz.f8.isWrapper Tryz.prog Rows.crossoverBranchesRow.wrapper Rows.crossoverBranchesRow.mainSum:=by
 unfold Func.isWrapper; first | (rw [if_pos (by decide +kernel)]; kernel_rfl) | (rw [if_neg (by decide +kernel)]; exact ⟨rfl,rfl⟩)
theorem c8_goes:false=Rows.crossoverBranchesRow.goesBy Tryz.prog:=by kernel_rfl
theorem c8_wfText:Rows.crossoverBranchesRow.wfByText (OpenSpec.ofChange Rows.crossoverBranchesSpec)=true:=by kernel_rfl
theorem c8_closed:joinedFacts Tryz.prog 8 Tryz.f8 Rows.crossoverBranchesSpec Rows.crossoverBranchesRow=true:=
 joined_of c8_wf z_laid x_rowed c8_readable c8_tie (by kernel_rfl) x_stops (by kernel_rfl) x_knobs c8_inPlace c8_unfollowed c8_recurses c8_named
  (by kernel_rfl) (by kernel_rfl) (by kernel_rfl) (by kernel_rfl) (by kernel_rfl) (by kernel_rfl) (by kernel_rfl) (by kernel_rfl) (by kernel_rfl) x_plain (by kernel_rfl) x_heard x_enter x_lifts x_make (by kernel_rfl) (by kernel_rfl) (by kernel_rfl) (by kernel_rfl)
end Go.Proofs.YtnjngdcbkkonnaaGreatDoor
