/- Closed facts of CrossoverTexts. -/
import Derived.Test.YtnjngdcbkkonnaaGreatDoorPX
set_option linter.unusedVariables false
set_option linter.unusedSimpArgs false
set_option maxRecDepth 100000
namespace Go.Proofs.YtnjngdcbkkonnaaGreatDoor
open Go Go.Abs Go.Z Go.RowKit
theorem q6j:Rows.crossoverTextsRow.wf (OpenSpec.ofChange Rows.crossoverTextsSpec)=true:=by kernel_rfl
theorem qtd:Tryz.f14.params.all (Tryz.prog.readableRec ·)=true:=by kernel_rfl
theorem q37:namedTie Tryz.prog Rows.crossoverTextsRow.named Rows.crossoverTextsSpec.vars=true:=by kernel_rfl
theorem quu:(Rows.crossoverTextsRow.inPlace == Tryz.prog.inPlace 14)=true:=by kernel_rfl
theorem qp5:(Rows.crossoverTextsRow.unfollowed == Tryz.prog.unfollowed 14)=true:=by kernel_rfl
theorem qr2:(Rows.crossoverTextsRow.recurses == Tryz.prog.recurses 14)=true:=by kernel_rfl
theorem q0e:(Rows.crossoverTextsRow.named == Tryz.prog.varsNamed 14)=true:=by kernel_rfl
theorem c14_named2 : Tryz.prog.funcNamed "woofer/wooferlaw04.CrossoverTexts" = some 14 := by kernel_rfl
theorem q2z:Tryz.f14.isInstance Tryz.prog Rows.crossoverTextsRow.origin Rows.crossoverTextsRow.targs:=of_decide_eq_true (by kernel_rfl)
theorem q09:Tryz.f14.isWrapper Tryz.prog Rows.crossoverTextsRow.wrapper Rows.crossoverTextsRow.mainSum:=by
 unfold Func.isWrapper; first | (rw [if_pos (by decide +kernel)]; kernel_rfl) | (rw [if_neg (by decide +kernel)]; exact ⟨rfl,rfl⟩)
theorem q17:false=Rows.crossoverTextsRow.goesBy Tryz.prog:=by kernel_rfl
theorem qx7:Rows.crossoverTextsRow.wfByText (OpenSpec.ofChange Rows.crossoverTextsSpec)=true:=by kernel_rfl
theorem qw1:joinedFacts Tryz.prog 14 Tryz.f14 Rows.crossoverTextsSpec Rows.crossoverTextsRow=true:=
 q0n q6j q0z q4w qtd q37 (by kernel_rfl) q5f (by kernel_rfl) q5j quu qp5 qr2 q0e
  (by kernel_rfl) (by kernel_rfl) (by kernel_rfl) (by kernel_rfl) (by kernel_rfl) (by kernel_rfl) (by kernel_rfl) (by kernel_rfl) (by kernel_rfl) q46 (by kernel_rfl) q4q q4r q4j q6i (by kernel_rfl) (by kernel_rfl) (by kernel_rfl) (by kernel_rfl)
end Go.Proofs.YtnjngdcbkkonnaaGreatDoor
