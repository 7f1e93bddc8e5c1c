/- Closed facts of CrossoverCorners. -/
import Derived.Test.YtnjngdcbkkonnaaGreatDoorPX
set_option linter.unusedVariables false
set_option linter.unusedSimpArgs false
set_option maxRecDepth 100000
namespace Go.Proofs.YtnjngdcbkkonnaaGreatDoor
open Go Go.Abs Go.Z Go.RowKit
theorem jjw:Rows.crossoverCornersRow.wf (OpenSpec.ofChange Rows.crossoverCornersSpec)=true:=by kernel_rfl
theorem qzf:Tryz.f7.params.all (Tryz.prog.readableRec ·)=true:=by kernel_rfl
theorem jfi:namedTie Tryz.prog Rows.crossoverCornersRow.named Rows.crossoverCornersSpec.vars=true:=by kernel_rfl
theorem q2q:(Rows.crossoverCornersRow.inPlace == Tryz.prog.inPlace 7)=true:=by kernel_rfl
theorem qvd:(Rows.crossoverCornersRow.unfollowed == Tryz.prog.unfollowed 7)=true:=by kernel_rfl
theorem qyx:(Rows.crossoverCornersRow.recurses == Tryz.prog.recurses 7)=true:=by kernel_rfl
theorem q8x:(Rows.crossoverCornersRow.named == Tryz.prog.varsNamed 7)=true:=by kernel_rfl
theorem c7_named2 : Tryz.prog.funcNamed "woofer/wooferlaw04.CrossoverCorners" = some 7 := by kernel_rfl
theorem jaq:Tryz.f7.isInstance Tryz.prog Rows.crossoverCornersRow.origin Rows.crossoverCornersRow.targs:=of_decide_eq_true (by kernel_rfl)
theorem jbr:Tryz.f7.isWrapper Tryz.prog Rows.crossoverCornersRow.wrapper Rows.crossoverCornersRow.mainSum:=by
 unfold Func.isWrapper; first | (rw [if_pos (by decide +kernel)]; kernel_rfl) | (rw [if_neg (by decide +kernel)]; exact ⟨rfl,rfl⟩)
theorem jbe:false=Rows.crossoverCornersRow.goesBy Tryz.prog:=by kernel_rfl
theorem q4k:Rows.crossoverCornersRow.wfByText (OpenSpec.ofChange Rows.crossoverCornersSpec)=true:=by kernel_rfl
theorem q31:joinedFacts Tryz.prog 7 Tryz.f7 Rows.crossoverCornersSpec Rows.crossoverCornersRow=true:=
 q3l jjw q42 ja9 qzf jfi (by kernel_rfl) jbn (by kernel_rfl) q99 q2q qvd qyx q8x
  (by kernel_rfl) (by kernel_rfl) (by kernel_rfl) (by kernel_rfl) (by kernel_rfl) (by kernel_rfl) (by kernel_rfl) (by kernel_rfl) (by kernel_rfl) jbv (by kernel_rfl) q95 jaj jbc jek (by kernel_rfl) (by kernel_rfl) (by kernel_rfl) (by kernel_rfl)
end Go.Proofs.YtnjngdcbkkonnaaGreatDoor
