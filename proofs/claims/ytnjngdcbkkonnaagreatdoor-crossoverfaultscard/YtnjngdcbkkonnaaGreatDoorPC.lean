/-
  Closed facts of CrossoverFaults. No conditions.
-/
import Derived.Test.YtnjngdcbkkonnaaGreatDoorPX
set_option linter.unusedVariables false
set_option linter.unusedSimpArgs false
set_option maxRecDepth 100000
namespace Go.Proofs.YtnjngdcbkkonnaaGreatDoor
open Go Go.Abs Go.Z Go.RowKit
theorem jc9:Rows.crossoverFaultsRow.wf (OpenSpec.ofChange Rows.crossoverFaultsSpec)=true:=by kernel_rfl
theorem qvd:Tryz.f11.params.all (Tryz.prog.readableRec ·)=true:=by kernel_rfl
theorem q8y:namedTie Tryz.prog Rows.crossoverFaultsRow.named Rows.crossoverFaultsSpec.vars=true:=by kernel_rfl
theorem qyb:(Rows.crossoverFaultsRow.inPlace == Tryz.prog.inPlace 11)=true:=by kernel_rfl
theorem qs4:(Rows.crossoverFaultsRow.unfollowed == Tryz.prog.unfollowed 11)=true:=by kernel_rfl
theorem qv5:(Rows.crossoverFaultsRow.recurses == Tryz.prog.recurses 11)=true:=by kernel_rfl
theorem q4b:(Rows.crossoverFaultsRow.named == Tryz.prog.varsNamed 11)=true:=by kernel_rfl
theorem c11_named2 : Tryz.prog.funcNamed "woofer/wooferlaw04.CrossoverFaults" = some 11 := by kernel_rfl
theorem q6j:Tryz.f11.isInstance Tryz.prog Rows.crossoverFaultsRow.origin Rows.crossoverFaultsRow.targs:=of_decide_eq_true (by kernel_rfl)
theorem q55:Tryz.f11.isWrapper Tryz.prog Rows.crossoverFaultsRow.wrapper Rows.crossoverFaultsRow.mainSum:=by
 unfold Func.isWrapper; first | (rw [if_pos (by decide +kernel)]; kernel_rfl) | (rw [if_neg (by decide +kernel)]; exact ⟨rfl,rfl⟩)
theorem q5a:false=Rows.crossoverFaultsRow.goesBy Tryz.prog:=by kernel_rfl
theorem qz4:Rows.crossoverFaultsRow.wfByText (OpenSpec.ofChange Rows.crossoverFaultsSpec)=true:=by kernel_rfl
theorem q0x:joinedFacts Tryz.prog 11 Tryz.f11 Rows.crossoverFaultsSpec Rows.crossoverFaultsRow=true:=
 q3b jc9 q2w q9u qvd q8y (by kernel_rfl) q9p (by kernel_rfl) q99 qyb qs4 qv5 q4b
  (by kernel_rfl) (by kernel_rfl) (by kernel_rfl) (by kernel_rfl) (by kernel_rfl) (by kernel_rfl) (by kernel_rfl) (by kernel_rfl) (by kernel_rfl) q8w (by kernel_rfl) q9j q8x jaa jbq (by kernel_rfl) (by kernel_rfl) (by kernel_rfl) (by kernel_rfl)
end Go.Proofs.YtnjngdcbkkonnaaGreatDoor
