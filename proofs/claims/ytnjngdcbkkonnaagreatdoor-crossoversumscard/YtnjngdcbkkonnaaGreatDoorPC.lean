/-
  Closed facts of CrossoverSums. No conditions.
-/
import Derived.Test.YtnjngdcbkkonnaaGreatDoorPX
set_option linter.unusedVariables false
set_option linter.unusedSimpArgs false
set_option maxRecDepth 100000
namespace Go.Proofs.YtnjngdcbkkonnaaGreatDoor
open Go Go.Abs Go.Z Go.RowKit
theorem c6_wf:Rows.crossoverSumsRow.wf (OpenSpec.ofChange Rows.crossoverSumsSpec)=true:=by kernel_rfl
theorem c6_readable:Tryz.f6.params.all (Tryz.prog.readableRec ·)=true:=by kernel_rfl
theorem c6_tie:namedTie Tryz.prog Rows.crossoverSumsRow.named Rows.crossoverSumsSpec.vars=true:=by kernel_rfl
theorem c6_inPlace:(Rows.crossoverSumsRow.inPlace == Tryz.prog.inPlace 6)=true:=by kernel_rfl
theorem c6_unfollowed:(Rows.crossoverSumsRow.unfollowed == Tryz.prog.unfollowed 6)=true:=by kernel_rfl
theorem c6_recurses:(Rows.crossoverSumsRow.recurses == Tryz.prog.recurses 6)=true:=by kernel_rfl
theorem c6_named:(Rows.crossoverSumsRow.named == Tryz.prog.varsNamed 6)=true:=by kernel_rfl
theorem c6_named2 : Tryz.prog.funcNamed "woofer/wooferlaw04.CrossoverSums" = some 6 := by kernel_rfl
theorem c6_inst:Tryz.f6.isInstance Tryz.prog Rows.crossoverSumsRow.origin Rows.crossoverSumsRow.targs:=of_decide_eq_true (by kernel_rfl)
theorem c6_wrap:Tryz.f6.isWrapper Tryz.prog Rows.crossoverSumsRow.wrapper Rows.crossoverSumsRow.mainSum:=by
 unfold Func.isWrapper; first | (rw [if_pos (by decide +kernel)]; kernel_rfl) | (rw [if_neg (by decide +kernel)]; exact ⟨rfl,rfl⟩)
theorem c6_goes:false=Rows.crossoverSumsRow.goesBy Tryz.prog:=by kernel_rfl
theorem c6_wfText:Rows.crossoverSumsRow.wfByText (OpenSpec.ofChange Rows.crossoverSumsSpec)=true:=by kernel_rfl
theorem c6_closed:joinedFacts Tryz.prog 6 Tryz.f6 Rows.crossoverSumsSpec Rows.crossoverSumsRow=true:=
 joined_of c6_wf z_laid x_rowed c6_readable c6_tie (by kernel_rfl) x_stops (by kernel_rfl) x_knobs c6_inPlace c6_unfollowed c6_recurses c6_named
  (by kernel_rfl) (by kernel_rfl) (by kernel_rfl) (by kernel_rfl) (by kernel_rfl) (by kernel_rfl) (by kernel_rfl) (by kernel_rfl) (by kernel_rfl) x_plain (by kernel_rfl) x_heard x_enter x_lifts x_make (by kernel_rfl) (by kernel_rfl) (by kernel_rfl) (by kernel_rfl)
end Go.Proofs.YtnjngdcbkkonnaaGreatDoor
