/- Closed facts of WorksPast. -/
import Derived.Test.YtimdocpnkimlfaaGreatDoorLG
set_option linter.unusedVariables false
set_option linter.unusedSimpArgs false
set_option maxRecDepth 100000
namespace Go.Proofs.YtimdocpnkimlfaaGreatDoor
open Go Go.Abs Go.Z Go.RowKit
theorem j3j:Rows.worksPastRow.wf (OpenSpec.ofChange Rows.worksPastSpec)=true:=by kernel_rfl
theorem q6t:Tryz.f4.params.all (Tryz.prog.readableRec ·)=true:=by kernel_rfl
theorem jvb:namedTie Tryz.prog Rows.worksPastRow.named Rows.worksPastSpec.vars=true:=by kernel_rfl
theorem jck:(Rows.worksPastRow.inPlace == Tryz.prog.inPlace 4)=true:=by kernel_rfl
theorem q0l:(Rows.worksPastRow.unfollowed == Tryz.prog.unfollowed 4)=true:=by kernel_rfl
theorem q7d:(Rows.worksPastRow.recurses == Tryz.prog.recurses 4)=true:=by kernel_rfl
theorem jjo:(Rows.worksPastRow.named == Tryz.prog.varsNamed 4)=true:=by kernel_rfl
theorem c4_named2 : Tryz.prog.funcNamed "woofer/wooferlaw10.WorksPast" = some 4 := by kernel_rfl
theorem jqk:Tryz.f4.isInstance Tryz.prog Rows.worksPastRow.origin Rows.worksPastRow.targs:=of_decide_eq_true (by kernel_rfl)
theorem jpw:Tryz.f4.isWrapper Tryz.prog Rows.worksPastRow.wrapper Rows.worksPastRow.mainSum:=by
 unfold Func.isWrapper;first|(rw[if_pos (by decide +kernel)];kernel_rfl)|(rw[if_neg (by decide +kernel)];exact⟨rfl,rfl⟩)
theorem jom:false=Rows.worksPastRow.goesBy Tryz.prog:=by kernel_rfl
theorem jc7:Rows.worksPastRow.wfByText (OpenSpec.ofChange Rows.worksPastSpec)=true:=by kernel_rfl
theorem jc8:joinedFacts Tryz.prog 4 Tryz.f4 Rows.worksPastSpec Rows.worksPastRow=true:=
 jdu j3j jdt joo q6t jvb (by kernel_rfl) jpi (by kernel_rfl) jov jck q0l q7d jjo
  (by kernel_rfl) (by kernel_rfl) (by kernel_rfl) (by kernel_rfl) (by kernel_rfl) (by kernel_rfl) (by kernel_rfl) (by kernel_rfl) (by kernel_rfl) jnp (by kernel_rfl) jpn joy jnq juf (by kernel_rfl) (by kernel_rfl) (by kernel_rfl) (by kernel_rfl)
end Go.Proofs.YtimdocpnkimlfaaGreatDoor
