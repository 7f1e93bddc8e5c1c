/- Closed facts of the program. -/
import Derived.Test.YtfopaakmgogpiaaGreatDoorLG
set_option linter.unusedVariables false
set_option linter.unusedSimpArgs false
set_option maxRecDepth 100000
open Bool renaming true→I
namespace Go.Proofs.YtfopaakmgogpiaaGreatDoor
open Go Go.Abs Go.Z Go.RowKit
theorem jcw {P:Program}{f:FuncId}{fn:Func}{s:ChangeSpec}{c:OpenClaim}(h1:c.wf (OpenSpec.ofChange s)=I)(h2:laidOutB P=I)(h3:mapsRowed P=I)
  (h4:fn.params.all (P.readableRec ·)=I) (h5:namedTie P c.named s.vars=I)
  (h6:(c.stops == [])=I) (h7:(P.stops == [])=I) (h8:(c.knobs == [])=I) (h9:(P.stopKnobs == [])=I)
  (jG:(c.inPlace == P.inPlace f)=I) (ll:(c.unfollowed == P.unfollowed f)=I) (lS:(c.recurses == P.recurses f)=I) (pL:(c.named == P.varsNamed f)=I)
  (oO:(c.maps == (fn.params.toList++s.plain.varTypes P).any (P.mapsRec ·))=I) (yO:(c.ifaces == (fn.params.toList++s.plain.varTypes P).any (P.ifacesRec ·))=I) (oM:(c.mapsOut == P.mapsAmong fn.resultTypes.toList)=I)
  (Vl:(c.loops == (fn.params.toList++s.plain.varTypes P).any (P.loopsFrom ·))=I) (XE:(c.wideKeys == (fn.params.toList++s.plain.varTypes P++fn.resultTypes.toList).any (P.wideKeysFrom ·))=I)
  (Vm:s.vars.all (P.varReadable ·)=I) (Hn:fn.resultTypes.all (fun t=>P.readableRec t&&decide (t<P.types.size))=I) (Vn:(c.ifacesOut == fn.resultTypes.toList.any (P.ifacesRec ·))=I) (Ho:(c.loopsOut == fn.resultTypes.toList.any (P.loopsFrom ·))=I)
  (Vo:(c.plainKeys == P.plainKeys)=I) (AV:c.shortTexts.isNone=I) (Hp:P.stopsHeard=I) (Jh:P.mayEnter=I) (XF:(c.lifted == P.liftsFinal)=I) (wK:(P.make == some c.make)=I)
  (h29:(c.kinds == (if c.domain.isEmpty then []else fn.params.toList.map fun t=>match P.underlying t with|some (.int k)=>some k|_=>none))=I) (BM:(c.pinned == c.pinnedBy)=I)
  (rP:(c.veiled == (fn.params.toList++s.plain.varTypes P++fn.resultTypes.toList).any (P.veiledRec ·))=I) (XG:c.veiledFits P fn.params.toList (fn.params.toList++s.plain.varTypes P++fn.resultTypes.toList)=I):joinedFacts P f fn s c=I:=by
 simp only[joinedFacts,Bool.and_eq_true]
 exact⟨⟨⟨⟨⟨⟨⟨⟨⟨⟨⟨⟨⟨⟨⟨⟨⟨⟨⟨⟨⟨⟨⟨⟨⟨⟨⟨⟨⟨⟨⟨h1,h2⟩,h3⟩,h4⟩,h5⟩,h6⟩,h7⟩,h8⟩,h9⟩,jG⟩,ll⟩,lS⟩,pL⟩,oO⟩,yO⟩,oM⟩,Vl⟩,XE⟩,Vm⟩,Hn⟩,Vn⟩,Ho⟩,Vo⟩,AV⟩,Hp⟩,Jh⟩,XF⟩,wK⟩,h29⟩,BM⟩,rP⟩,XG⟩
end Go.Proofs.YtfopaakmgogpiaaGreatDoor
namespace Go.Proofs.YtfopaakmgogpiaaGreatDoor
open Go Go.Abs Go.Z Go.RowKit
theorem jnt:mapsRowed Tryz.prog=I:=by kernel_rfl
theorem jnn:(Tryz.prog.stops == [])=I:=by kernel_rfl
theorem jns:(Tryz.prog.stopKnobs == [])=I:=by kernel_rfl
theorem jpa:(Rows.worksEventsRow.plainKeys == Tryz.prog.plainKeys)=I:=by kernel_rfl
theorem jnz:Tryz.prog.stopsHeard=I:=by kernel_rfl
theorem jn4:Tryz.prog.mayEnter=I:=by kernel_rfl
theorem jo3:(Rows.worksEventsRow.lifted == Tryz.prog.liftsFinal)=I:=by kernel_rfl
theorem jrk:(Tryz.prog.make == some Rows.worksEventsRow.make)=I:=by kernel_rfl
theorem juk : Tryz.prog.mainIs = some (I, "6129b98b9c5c6310e220ac45be93c11f79b838ff938c88dd71e495a1e58b721a".toList) := by kernel_rfl
theorem jne:false=Tryz.prog.looks []:=by kernel_rfl
end Go.Proofs.YtfopaakmgogpiaaGreatDoor
