/- Closed facts of CrossoverCheapest. -/
import Derived.Test.YtnjngdcbkkonnaaGreatDoorPX
set_option linter.unusedVariables false
set_option linter.unusedSimpArgs false
set_option maxRecDepth 100000
namespace Go.Proofs.YtnjngdcbkkonnaaGreatDoor
open Go Go.Abs Go.Z Go.RowKit
theorem jrj:Rows.crossoverCheapestRow.wf (OpenSpec.ofChange Rows.crossoverCheapestSpec)=true:=by kernel_rfl
theorem q1x:Tryz.f5.params.all (Tryz.prog.readableRec ·)=true:=by kernel_rfl
theorem jfw:namedTie Tryz.prog Rows.crossoverCheapestRow.named Rows.crossoverCheapestSpec.vars=true:=by kernel_rfl
theorem q47:(Rows.crossoverCheapestRow.inPlace == Tryz.prog.inPlace 5)=true:=by kernel_rfl
theorem qxr:(Rows.crossoverCheapestRow.unfollowed == Tryz.prog.unfollowed 5)=true:=by kernel_rfl
theorem q1f:(Rows.crossoverCheapestRow.recurses == Tryz.prog.recurses 5)=true:=by kernel_rfl
theorem jam:(Rows.crossoverCheapestRow.named == Tryz.prog.varsNamed 5)=true:=by kernel_rfl
theorem c5_named2 : Tryz.prog.funcNamed "woofer/wooferlaw04.CrossoverCheapest" = some 5 := by kernel_rfl
theorem jdo:Tryz.f5.isInstance Tryz.prog Rows.crossoverCheapestRow.origin Rows.crossoverCheapestRow.targs:=of_decide_eq_true (by kernel_rfl)
theorem jed:Tryz.f5.isWrapper Tryz.prog Rows.crossoverCheapestRow.wrapper Rows.crossoverCheapestRow.mainSum:=by
 unfold Func.isWrapper; first | (rw [if_pos (by decide +kernel)]; kernel_rfl) | (rw [if_neg (by decide +kernel)]; exact ⟨rfl,rfl⟩)
theorem jcq:false=Rows.crossoverCheapestRow.goesBy Tryz.prog:=by kernel_rfl
theorem q8g:Rows.crossoverCheapestRow.wfByText (OpenSpec.ofChange Rows.crossoverCheapestSpec)=true:=by kernel_rfl
theorem q8d:joinedFacts Tryz.prog 5 Tryz.f5 Rows.crossoverCheapestSpec Rows.crossoverCheapestRow=true:=
 q66 jrj q70 jd0 q1x jfw (by kernel_rfl) jck (by kernel_rfl) jd8 q47 qxr q1f jam
  (by kernel_rfl) (by kernel_rfl) (by kernel_rfl) (by kernel_rfl) (by kernel_rfl) (by kernel_rfl) (by kernel_rfl) (by kernel_rfl) (by kernel_rfl) jcm (by kernel_rfl) jec jcx jeb je9 (by kernel_rfl) (by kernel_rfl) (by kernel_rfl) (by kernel_rfl)
end Go.Proofs.YtnjngdcbkkonnaaGreatDoor
