/- Closed facts of the program. -/
import Derived.Test.YtfopaakmgogpiaaGreatDoorLG
set_option maxRecDepth 100000
open Bool renaming true→I
namespace Go.Proofs.YtfopaakmgogpiaaGreatDoor
open Go Go.Abs Go.Z Go.RowKit
theorem jb2 {P:Program}{f:FuncId}{fn:Func}{s:ChangeSpec}{c:OpenClaim}(h1:c.wf (OpenSpec.ofChange s)=I)(h2:laidOutB P=I)(h3:mapsRowed P=I)
  (h4:fn.params.all (P.readableRec ·)=I) (h5:namedTie P c.named s.vars=I)
  (h6:(c.stops == [])=I) (h7:(P.stops == [])=I) (h8:(c.knobs == [])=I) (h9:(P.stopKnobs == [])=I)
  (lD:(c.inPlace == P.inPlace f)=I) (nM:(c.unfollowed == P.unfollowed f)=I) (lE:(c.recurses == P.recurses f)=I) (pf:(c.named == P.varsNamed f)=I)
  (mT:(c.maps == (fn.params.toList++s.plain.varTypes P).any (P.mapsRec ·))=I) (xH:(c.ifaces == (fn.params.toList++s.plain.varTypes P).any (P.ifacesRec ·))=I) (oo:(c.mapsOut == P.mapsAmong fn.resultTypes.toList)=I)
  (FO:(c.loops == (fn.params.toList++s.plain.varTypes P).any (P.loopsFrom ·))=I) (Hv:(c.wideKeys == (fn.params.toList++s.plain.varTypes P++fn.resultTypes.toList).any (P.wideKeysFrom ·))=I)
  (TI:s.vars.all (P.varReadable ·)=I) (FP:fn.resultTypes.all (fun t=>P.readableRec t&&decide (t<P.types.size))=I) (TJ:(c.ifacesOut == fn.resultTypes.toList.any (P.ifacesRec ·))=I) (FQ:(c.loopsOut == fn.resultTypes.toList.any (P.loopsFrom ·))=I)
  (TK:(c.plainKeys == P.plainKeys)=I) (FR:c.shortTexts.isNone=I) (TL:P.stopsHeard=I) (Hw:P.mayEnter=I) (V5:(c.lifted == P.liftsFinal)=I) (Hx:(P.make == some c.make)=I)
  (h29:(c.kinds == (if c.domain.isEmpty then []else fn.params.toList.map fun t=>match P.underlying t with|some (.int k)=>some k|_=>none))=I) (Hy:(c.pinned == c.pinnedBy)=I)
  (qS:(c.veiled == (fn.params.toList++s.plain.varTypes P++fn.resultTypes.toList).any (P.veiledRec ·))=I) (h32:c.veiledFits P fn.params.toList (fn.params.toList++s.plain.varTypes P++fn.resultTypes.toList)=I):joinedFacts P f fn s c=I:=by
 simp only[joinedFacts,Bool.and_eq_true]
 exact⟨⟨⟨⟨⟨⟨⟨⟨⟨⟨⟨⟨⟨⟨⟨⟨⟨⟨⟨⟨⟨⟨⟨⟨⟨⟨⟨⟨⟨⟨⟨h1,h2⟩,h3⟩,h4⟩,h5⟩,h6⟩,h7⟩,h8⟩,h9⟩,lD⟩,nM⟩,lE⟩,pf⟩,mT⟩,xH⟩,oo⟩,FO⟩,Hv⟩,TI⟩,FP⟩,TJ⟩,FQ⟩,TK⟩,FR⟩,TL⟩,Hw⟩,V5⟩,Hx⟩,h29⟩,Hy⟩,qS⟩,h32⟩
end Go.Proofs.YtfopaakmgogpiaaGreatDoor
namespace Go.Proofs.YtfopaakmgogpiaaGreatDoor
open Go Go.Abs Go.Z Go.RowKit
theorem jl1:mapsRowed Tryz.prog=I:=by kernel_rfl
theorem jlr:(Tryz.prog.stops == [])=I:=by kernel_rfl
theorem jlq:(Tryz.prog.stopKnobs == [])=I:=by kernel_rfl
theorem jm0:(Rows.worksEventsRow.plainKeys == Tryz.prog.plainKeys)=I:=by kernel_rfl
theorem jlu:Tryz.prog.stopsHeard=I:=by kernel_rfl
theorem jmz:Tryz.prog.mayEnter=I:=by kernel_rfl
theorem jlj:(Rows.worksEventsRow.lifted == Tryz.prog.liftsFinal)=I:=by kernel_rfl
theorem jo8:(Tryz.prog.make == some Rows.worksEventsRow.make)=I:=by kernel_rfl
theorem jot : Tryz.prog.mainIs = some (I, "6129b98b9c5c6310e220ac45be93c11f79b838ff938c88dd71e495a1e58b721a".toList) := by kernel_rfl
theorem jmk:false=Tryz.prog.looks []:=by kernel_rfl
end Go.Proofs.YtfopaakmgogpiaaGreatDoor
