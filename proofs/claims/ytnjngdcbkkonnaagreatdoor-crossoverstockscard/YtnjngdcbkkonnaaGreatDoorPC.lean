/-
  Closed facts of CrossoverStocks. No conditions.
-/
import Derived.Test.YtnjngdcbkkonnaaGreatDoorPX
set_option linter.unusedVariables false
set_option linter.unusedSimpArgs false
set_option maxRecDepth 100000
namespace Go.Proofs.YtnjngdcbkkonnaaGreatDoor
open Go Go.Abs Go.Z Go.RowKit
theorem jdi:Rows.crossoverStocksRow.wf (OpenSpec.ofChange Rows.crossoverStocksSpec)=true:=by kernel_rfl
theorem qvd:Tryz.f9.params.all (Tryz.prog.readableRec ·)=true:=by kernel_rfl
theorem q6h:namedTie Tryz.prog Rows.crossoverStocksRow.named Rows.crossoverStocksSpec.vars=true:=by kernel_rfl
theorem qxb:(Rows.crossoverStocksRow.inPlace == Tryz.prog.inPlace 9)=true:=by kernel_rfl
theorem qro:(Rows.crossoverStocksRow.unfollowed == Tryz.prog.unfollowed 9)=true:=by kernel_rfl
theorem qvq:(Rows.crossoverStocksRow.recurses == Tryz.prog.recurses 9)=true:=by kernel_rfl
theorem q2f:(Rows.crossoverStocksRow.named == Tryz.prog.varsNamed 9)=true:=by kernel_rfl
theorem c9_named2 : Tryz.prog.funcNamed "woofer/wooferlaw04.CrossoverStocks" = some 9 := by kernel_rfl
theorem q5k:Tryz.f9.isInstance Tryz.prog Rows.crossoverStocksRow.origin Rows.crossoverStocksRow.targs:=of_decide_eq_true (by kernel_rfl)
theorem q44:Tryz.f9.isWrapper Tryz.prog Rows.crossoverStocksRow.wrapper Rows.crossoverStocksRow.mainSum:=by
 unfold Func.isWrapper; first | (rw [if_pos (by decide +kernel)]; kernel_rfl) | (rw [if_neg (by decide +kernel)]; exact ⟨rfl,rfl⟩)
theorem q4y:false=Rows.crossoverStocksRow.goesBy Tryz.prog:=by kernel_rfl
theorem qyz:Rows.crossoverStocksRow.wfByText (OpenSpec.ofChange Rows.crossoverStocksSpec)=true:=by kernel_rfl
theorem qzj:joinedFacts Tryz.prog 9 Tryz.f9 Rows.crossoverStocksSpec Rows.crossoverStocksRow=true:=
 qzs jdi qzp q5j qvd q6h (by kernel_rfl) q43 (by kernel_rfl) q4v qxb qro qvq q2f
  (by kernel_rfl) (by kernel_rfl) (by kernel_rfl) (by kernel_rfl) (by kernel_rfl) (by kernel_rfl) (by kernel_rfl) (by kernel_rfl) (by kernel_rfl) q41 (by kernel_rfl) q3v q4k q5e q65 (by kernel_rfl) (by kernel_rfl) (by kernel_rfl) (by kernel_rfl)
end Go.Proofs.YtnjngdcbkkonnaaGreatDoor
