/- Closed facts of CrossoverRefuses. -/
import Derived.Test.YtnjngdcbkkonnaaGreatDoorPX
set_option linter.unusedVariables false
set_option linter.unusedSimpArgs false
set_option maxRecDepth 100000
namespace Go.Proofs.YtnjngdcbkkonnaaGreatDoor
open Go Go.Abs Go.Z Go.RowKit
theorem jmu:Rows.crossoverRefusesRow.wf (OpenSpec.ofChange Rows.crossoverRefusesSpec)=true:=by kernel_rfl
theorem q20:Tryz.f12.params.all (Tryz.prog.readableRec ·)=true:=by kernel_rfl
theorem jgl:namedTie Tryz.prog Rows.crossoverRefusesRow.named Rows.crossoverRefusesSpec.vars=true:=by kernel_rfl
theorem q4w:(Rows.crossoverRefusesRow.inPlace == Tryz.prog.inPlace 12)=true:=by kernel_rfl
theorem qzh:(Rows.crossoverRefusesRow.unfollowed == Tryz.prog.unfollowed 12)=true:=by kernel_rfl
theorem q1x:(Rows.crossoverRefusesRow.recurses == Tryz.prog.recurses 12)=true:=by kernel_rfl
theorem jay:(Rows.crossoverRefusesRow.named == Tryz.prog.varsNamed 12)=true:=by kernel_rfl
theorem c12_named2 : Tryz.prog.funcNamed "woofer/wooferlaw04.CrossoverRefuses" = some 12 := by kernel_rfl
theorem jed:Tryz.f12.isInstance Tryz.prog Rows.crossoverRefusesRow.origin Rows.crossoverRefusesRow.targs:=of_decide_eq_true (by kernel_rfl)
theorem jdj:Tryz.f12.isWrapper Tryz.prog Rows.crossoverRefusesRow.wrapper Rows.crossoverRefusesRow.mainSum:=by
 unfold Func.isWrapper;first|(rw[if_pos (by decide +kernel)];kernel_rfl)|(rw[if_neg (by decide +kernel)];exact⟨rfl,rfl⟩)
theorem jeh:false=Rows.crossoverRefusesRow.goesBy Tryz.prog:=by kernel_rfl
theorem q8g:Rows.crossoverRefusesRow.wfByText (OpenSpec.ofChange Rows.crossoverRefusesSpec)=true:=by kernel_rfl
theorem q8s:joinedFacts Tryz.prog 12 Tryz.f12 Rows.crossoverRefusesSpec Rows.crossoverRefusesRow=true:=
 jad jmu ja9 jic q20 jgl (by kernel_rfl) jg0 (by kernel_rfl) jg5 q4w qzh q1x jay
  (by kernel_rfl) (by kernel_rfl) (by kernel_rfl) (by kernel_rfl) (by kernel_rfl) (by kernel_rfl) (by kernel_rfl) (by kernel_rfl) (by kernel_rfl) jis (by kernel_rfl) jhu jgp jhh jle (by kernel_rfl) (by kernel_rfl) (by kernel_rfl) (by kernel_rfl)
end Go.Proofs.YtnjngdcbkkonnaaGreatDoor
