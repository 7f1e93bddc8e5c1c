/- Closed facts of CrossoverBack. -/
import Derived.Test.YtnjngdcbkkonnaaGreatDoorPX
set_option linter.unusedVariables false
set_option linter.unusedSimpArgs false
set_option maxRecDepth 100000
namespace Go.Proofs.YtnjngdcbkkonnaaGreatDoor
open Go Go.Abs Go.Z Go.RowKit
theorem q7o:Rows.crossoverBackRow.wf (OpenSpec.ofChange Rows.crossoverBackSpec)=true:=by kernel_rfl
theorem qt1:Tryz.f15.params.all (Tryz.prog.readableRec ·)=true:=by kernel_rfl
theorem q3u:namedTie Tryz.prog Rows.crossoverBackRow.named Rows.crossoverBackSpec.vars=true:=by kernel_rfl
theorem qup:(Rows.crossoverBackRow.inPlace == Tryz.prog.inPlace 15)=true:=by kernel_rfl
theorem qpg:(Rows.crossoverBackRow.unfollowed == Tryz.prog.unfollowed 15)=true:=by kernel_rfl
theorem qsi:(Rows.crossoverBackRow.recurses == Tryz.prog.recurses 15)=true:=by kernel_rfl
theorem qzf:(Rows.crossoverBackRow.named == Tryz.prog.varsNamed 15)=true:=by kernel_rfl
theorem c15_named2 : Tryz.prog.funcNamed "woofer/wooferlaw04.CrossoverBack" = some 15 := by kernel_rfl
theorem q00:Tryz.f15.isInstance Tryz.prog Rows.crossoverBackRow.origin Rows.crossoverBackRow.targs:=of_decide_eq_true (by kernel_rfl)
theorem q1t:Tryz.f15.isWrapper Tryz.prog Rows.crossoverBackRow.wrapper Rows.crossoverBackRow.mainSum:=by
 unfold Func.isWrapper; first | (rw [if_pos (by decide +kernel)]; kernel_rfl) | (rw [if_neg (by decide +kernel)]; exact ⟨rfl,rfl⟩)
theorem q0e:false=Rows.crossoverBackRow.goesBy Tryz.prog:=by kernel_rfl
theorem qv3:Rows.crossoverBackRow.wfByText (OpenSpec.ofChange Rows.crossoverBackSpec)=true:=by kernel_rfl
theorem qwu:joinedFacts Tryz.prog 15 Tryz.f15 Rows.crossoverBackSpec Rows.crossoverBackRow=true:=
 qyt q7o qzk q27 qt1 q3u (by kernel_rfl) q37 (by kernel_rfl) q30 qup qpg qsi qzf
  (by kernel_rfl) (by kernel_rfl) (by kernel_rfl) (by kernel_rfl) (by kernel_rfl) (by kernel_rfl) (by kernel_rfl) (by kernel_rfl) (by kernel_rfl) q4p (by kernel_rfl) q38 q4c q4x q5r (by kernel_rfl) (by kernel_rfl) (by kernel_rfl) (by kernel_rfl)
end Go.Proofs.YtnjngdcbkkonnaaGreatDoor
