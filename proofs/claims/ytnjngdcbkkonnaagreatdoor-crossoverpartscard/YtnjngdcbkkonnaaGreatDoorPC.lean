/-
  Closed facts of CrossoverParts. No conditions.
-/
import Derived.Test.YtnjngdcbkkonnaaGreatDoorPX
set_option linter.unusedVariables false
set_option linter.unusedSimpArgs false
set_option maxRecDepth 100000
namespace Go.Proofs.YtnjngdcbkkonnaaGreatDoor
open Go Go.Abs Go.Z Go.RowKit
theorem c3_wf:Rows.crossoverPartsRow.wf (OpenSpec.ofChange Rows.crossoverPartsSpec)=true:=by kernel_rfl
theorem c3_readable:Tryz.f3.params.all (Tryz.prog.readableRec ·)=true:=by kernel_rfl
theorem c3_tie:namedTie Tryz.prog Rows.crossoverPartsRow.named Rows.crossoverPartsSpec.vars=true:=by kernel_rfl
theorem c3_inPlace:(Rows.crossoverPartsRow.inPlace == Tryz.prog.inPlace 3)=true:=by kernel_rfl
theorem c3_unfollowed:(Rows.crossoverPartsRow.unfollowed == Tryz.prog.unfollowed 3)=true:=by kernel_rfl
theorem c3_recurses:(Rows.crossoverPartsRow.recurses == Tryz.prog.recurses 3)=true:=by kernel_rfl
theorem c3_named:(Rows.crossoverPartsRow.named == Tryz.prog.varsNamed 3)=true:=by kernel_rfl
theorem c3_named2 : Tryz.prog.funcNamed "woofer/wooferlaw04.CrossoverParts" = some 3 := by kernel_rfl
theorem c3_inst:Tryz.f3.isInstance Tryz.prog Rows.crossoverPartsRow.origin Rows.crossoverPartsRow.targs:=of_decide_eq_true (by kernel_rfl)
theorem c3_wrap:Tryz.f3.isWrapper Tryz.prog Rows.crossoverPartsRow.wrapper Rows.crossoverPartsRow.mainSum:=by
 unfold Func.isWrapper; first | (rw [if_pos (by decide +kernel)]; kernel_rfl) | (rw [if_neg (by decide +kernel)]; exact ⟨rfl,rfl⟩)
theorem c3_goes:false=Rows.crossoverPartsRow.goesBy Tryz.prog:=by kernel_rfl
theorem c3_wfText:Rows.crossoverPartsRow.wfByText (OpenSpec.ofChange Rows.crossoverPartsSpec)=true:=by kernel_rfl
theorem c3_closed:joinedFacts Tryz.prog 3 Tryz.f3 Rows.crossoverPartsSpec Rows.crossoverPartsRow=true:=
 joined_of c3_wf z_laid x_rowed c3_readable c3_tie (by kernel_rfl) x_stops (by kernel_rfl) x_knobs c3_inPlace c3_unfollowed c3_recurses c3_named
  (by kernel_rfl) (by kernel_rfl) (by kernel_rfl) (by kernel_rfl) (by kernel_rfl) (by kernel_rfl) (by kernel_rfl) (by kernel_rfl) (by kernel_rfl) x_plain (by kernel_rfl) x_heard x_enter x_lifts x_make (by kernel_rfl) (by kernel_rfl) (by kernel_rfl) (by kernel_rfl)
end Go.Proofs.YtnjngdcbkkonnaaGreatDoor
