/- Closed facts of the program. -/
import Derived.Test.YtlhfdilpecnjeaaGreatDoorLG
set_option linter.all false
set_option maxRecDepth 100000
open Bool renaming true->En
namespace Go.Proofs.YtlhfdilpecnjeaaGreatDoor
open Go Go.Abs Go.Z Go.RowKit
theorem jk7 {P:Program}{f:FuncId}{fn:Func}{s:ChangeSpec}{c:OpenClaim}(Y:c.wf (OpenSpec.ofChange s)=En)(I:laidOutB P=En)(h3:mapsRowed P=En)
  (h4:fn.params.all (P.readableRec ·)=En) (h5:namedTie P c.named s.vars=En)
  (h6:(c.stops == [])=En) (h7:(P.stops == [])=En) (h8:(c.knobs == [])=En) (h9:(P.stopKnobs == [])=En)
  (eh:(c.inPlace == P.inPlace f)=En) (ei:(c.unfollowed == P.unfollowed f)=En) (kN:(c.recurses == P.recurses f)=En) (fX:(c.named == P.varsNamed f)=En)
  (fF:(c.maps == (fn.params.toList++s.plain.varTypes P).any (P.mapsRec ·))=En) (l4:(c.ifaces == (fn.params.toList++s.plain.varTypes P).any (P.ifacesRec ·))=En) (jQ:(c.mapsOut == P.mapsAmong fn.resultTypes.toList)=En)
  (oL:(c.loops == (fn.params.toList++s.plain.varTypes P).any (P.loopsFrom ·))=En) (l6:(c.wideKeys == (fn.params.toList++s.plain.varTypes P++fn.resultTypes.toList).any (P.wideKeysFrom ·))=En)
  (pK:s.vars.all (P.varReadable ·)=En) (nx:fn.resultTypes.all (fun t=>P.readableRec t&&decide (t<P.types.size))=En) (iq:(c.ifacesOut == fn.resultTypes.toList.any (P.ifacesRec ·))=En) (gj:(c.loopsOut == fn.resultTypes.toList.any (P.loopsFrom ·))=En)
  (pL:(c.plainKeys == P.plainKeys)=En) (lu:c.shortTexts.isNone=En) (qO:P.stopsHeard=En) (mP:P.mayEnter=En) (nC:(c.lifted == P.liftsFinal)=En) (jI:(P.make == some c.make)=En)
  (K3:(c.kinds == (if c.domain.isEmpty then []else fn.params.toList.map fun t=>match P.underlying t with|some (.int k)=>some k|_=>none))=En) (lB:(c.pinned == c.pinnedBy)=En)
  (fA:(c.veiled == (fn.params.toList++s.plain.varTypes P++fn.resultTypes.toList).any (P.veiledRec ·))=En) (rj:c.veiledFits P fn.params.toList (fn.params.toList++s.plain.varTypes P++fn.resultTypes.toList)=En):joinedFacts P f fn s c=En:=by
 simp only[joinedFacts,Bool.and_eq_true];exact⟨⟨⟨⟨⟨⟨⟨⟨⟨⟨⟨⟨⟨⟨⟨⟨⟨⟨⟨⟨⟨⟨⟨⟨⟨⟨⟨⟨⟨⟨⟨Y,I⟩,h3⟩,h4⟩,h5⟩,h6⟩,h7⟩,h8⟩,h9⟩,eh⟩,ei⟩,kN⟩,fX⟩,fF⟩,l4⟩,jQ⟩,oL⟩,l6⟩,pK⟩,nx⟩,iq⟩,gj⟩,pL⟩,lu⟩,qO⟩,mP⟩,nC⟩,jI⟩,K3⟩,lB⟩,fA⟩,rj⟩
end Go.Proofs.YtlhfdilpecnjeaaGreatDoor
namespace Go.Proofs.YtlhfdilpecnjeaaGreatDoor
open Go Go.Abs Go.Z Go.RowKit
theorem jud:mapsRowed Tryz.prog=En:=by kernel_rfl
theorem jvc:(Tryz.prog.stops == [])=En:=by kernel_rfl
theorem jvb:(Tryz.prog.stopKnobs == [])=En:=by kernel_rfl
theorem juv:(Rows.worksTornRow.plainKeys == Tryz.prog.plainKeys)=En:=by kernel_rfl
theorem jsf:Tryz.prog.stopsHeard=En:=by kernel_rfl
theorem jvo:Tryz.prog.mayEnter=En:=by kernel_rfl
theorem jvn:(Rows.worksTornRow.lifted == Tryz.prog.liftsFinal)=En:=by kernel_rfl
theorem j2y:(Tryz.prog.make == some Rows.worksTornRow.make)=En:=by kernel_rfl
theorem jxt : Tryz.prog.mainIs = some (En, "6ebe9f5257bc28bbdf1043ac69240590c05c4215ff9701c5d64b0de29936156d".toList) := by kernel_rfl
theorem ju2:false=Tryz.prog.looks []:=by kernel_rfl
end Go.Proofs.YtlhfdilpecnjeaaGreatDoor
namespace Go.Proofs.YtlhfdilpecnjeaaGreatDoor
open Go Go.Abs Go.Z Go.RowKit
theorem j9y:Rows.worksSessionsRow.wf (OpenSpec.ofChange Rows.worksSessionsSpec)=En:=by kernel_rfl
theorem jb5:Tryz.f3.params.all (Tryz.prog.readableRec ·)=En:=by kernel_rfl
theorem jzb:namedTie Tryz.prog Rows.worksSessionsRow.named Rows.worksSessionsSpec.vars=En:=by kernel_rfl
theorem jeh:(Rows.worksSessionsRow.inPlace == Tryz.prog.inPlace 3)=En:=by kernel_rfl
theorem q5t:(Rows.worksSessionsRow.unfollowed == Tryz.prog.unfollowed 3)=En:=by kernel_rfl
theorem ja6:(Rows.worksSessionsRow.recurses == Tryz.prog.recurses 3)=En:=by kernel_rfl
theorem jqr:(Rows.worksSessionsRow.named == Tryz.prog.varsNamed 3)=En:=by kernel_rfl
theorem c3_named2 : Tryz.prog.funcNamed "woofer/wooferlaw10.WorksSessions" = some 3 := by kernel_rfl
theorem jv0:Tryz.f3.isInstance Tryz.prog Rows.worksSessionsRow.origin Rows.worksSessionsRow.targs:=of_decide_eq_true (by kernel_rfl)
theorem jvd:Tryz.f3.isWrapper Tryz.prog Rows.worksSessionsRow.wrapper Rows.worksSessionsRow.mainSum:=by
 unfold Func.isWrapper;first|(rw[if_pos (by decide +kernel)];kernel_rfl)|(rw[if_neg (by decide +kernel)];exact⟨rfl,rfl⟩)
theorem jt9:false=Rows.worksSessionsRow.goesBy Tryz.prog:=by kernel_rfl
theorem jj8:Rows.worksSessionsRow.wfByText (OpenSpec.ofChange Rows.worksSessionsSpec)=En:=by kernel_rfl
theorem jh0:joinedFacts Tryz.prog 3 Tryz.f3 Rows.worksSessionsSpec Rows.worksSessionsRow=En:=
 jk7 j9y jjy jud jb5 jzb (by kernel_rfl) jvc (by kernel_rfl) jvb jeh q5t ja6 jqr
  (by kernel_rfl) (by kernel_rfl) (by kernel_rfl) (by kernel_rfl) (by kernel_rfl) (by kernel_rfl) (by kernel_rfl) (by kernel_rfl) (by kernel_rfl) juv (by kernel_rfl) jsf jvo jvn j2y (by kernel_rfl) (by kernel_rfl) (by kernel_rfl) (by kernel_rfl)
end Go.Proofs.YtlhfdilpecnjeaaGreatDoor
