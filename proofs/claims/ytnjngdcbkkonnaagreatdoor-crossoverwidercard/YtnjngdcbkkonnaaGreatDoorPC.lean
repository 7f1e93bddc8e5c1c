/- Closed facts of CrossoverWider. -/
import Derived.Test.YtnjngdcbkkonnaaGreatDoorPX
set_option linter.unusedVariables false
set_option linter.unusedSimpArgs false
set_option maxRecDepth 100000
namespace Go.Proofs.YtnjngdcbkkonnaaGreatDoor
open Go Go.Abs Go.Z Go.RowKit
theorem jpo:Rows.crossoverWiderRow.wf (OpenSpec.ofChange Rows.crossoverWiderSpec)=true:=by kernel_rfl
theorem q4q:Tryz.f10.params.all (Tryz.prog.readableRec ·)=true:=by kernel_rfl
theorem jjg:namedTie Tryz.prog Rows.crossoverWiderRow.named Rows.crossoverWiderSpec.vars=true:=by kernel_rfl
theorem q59:(Rows.crossoverWiderRow.inPlace == Tryz.prog.inPlace 10)=true:=by kernel_rfl
theorem qzk:(Rows.crossoverWiderRow.unfollowed == Tryz.prog.unfollowed 10)=true:=by kernel_rfl
theorem q20:(Rows.crossoverWiderRow.recurses == Tryz.prog.recurses 10)=true:=by kernel_rfl
theorem jdd:(Rows.crossoverWiderRow.named == Tryz.prog.varsNamed 10)=true:=by kernel_rfl
theorem c10_named2 : Tryz.prog.funcNamed "woofer/wooferlaw04.CrossoverWider" = some 10 := by kernel_rfl
theorem jfs:Tryz.f10.isInstance Tryz.prog Rows.crossoverWiderRow.origin Rows.crossoverWiderRow.targs:=of_decide_eq_true (by kernel_rfl)
theorem jeh:Tryz.f10.isWrapper Tryz.prog Rows.crossoverWiderRow.wrapper Rows.crossoverWiderRow.mainSum:=by
 unfold Func.isWrapper;first|(rw[if_pos (by decide +kernel)];kernel_rfl)|(rw[if_neg (by decide +kernel)];exact⟨rfl,rfl⟩)
theorem jf8:false=Rows.crossoverWiderRow.goesBy Tryz.prog:=by kernel_rfl
theorem q8t:Rows.crossoverWiderRow.wfByText (OpenSpec.ofChange Rows.crossoverWiderSpec)=true:=by kernel_rfl
theorem q8k:joinedFacts Tryz.prog 10 Tryz.f10 Rows.crossoverWiderSpec Rows.crossoverWiderRow=true:=
 jca jpo jds jkh q4q jjg (by kernel_rfl) jjn (by kernel_rfl) jkv q59 qzk q20 jdd
  (by kernel_rfl) (by kernel_rfl) (by kernel_rfl) (by kernel_rfl) (by kernel_rfl) (by kernel_rfl) (by kernel_rfl) (by kernel_rfl) (by kernel_rfl) jk1 (by kernel_rfl) jj3 jj8 jkw jl5 (by kernel_rfl) (by kernel_rfl) (by kernel_rfl) (by kernel_rfl)
end Go.Proofs.YtnjngdcbkkonnaaGreatDoor
