/- Closed facts of the program. -/
import Derived.Test.YtfopaakmgogpiaaGreatDoorLG
set_option linter.unusedVariables false
set_option linter.unusedSimpArgs false
set_option maxRecDepth 100000
open Bool renaming true→I
namespace Go.Proofs.YtfopaakmgogpiaaGreatDoor
open Go Go.Abs Go.Z Go.RowKit
theorem jdc {P:Program}{f:FuncId}{fn:Func}{s:ChangeSpec}{c:OpenClaim}(h1:c.wf (OpenSpec.ofChange s)=I)(h2:laidOutB P=I)(h3:mapsRowed P=I)
  (h4:fn.params.all (P.readableRec ·)=I) (h5:namedTie P c.named s.vars=I)
  (h6:(c.stops == [])=I) (h7:(P.stops == [])=I) (h8:(c.knobs == [])=I) (h9:(P.stopKnobs == [])=I)
  (iW:(c.inPlace == P.inPlace f)=I) (nW:(c.unfollowed == P.unfollowed f)=I) (lK:(c.recurses == P.recurses f)=I) (px:(c.named == P.varsNamed f)=I)
  (mZ:(c.maps == (fn.params.toList++s.plain.varTypes P).any (P.mapsRec ·))=I) (uQ:(c.ifaces == (fn.params.toList++s.plain.varTypes P).any (P.ifacesRec ·))=I) (mY:(c.mapsOut == P.mapsAmong fn.resultTypes.toList)=I)
  (TH:(c.loops == (fn.params.toList++s.plain.varTypes P).any (P.loopsFrom ·))=I) (V9:(c.wideKeys == (fn.params.toList++s.plain.varTypes P++fn.resultTypes.toList).any (P.wideKeysFrom ·))=I)
  (TI:s.vars.all (P.varReadable ·)=I) (F4:fn.resultTypes.all (fun t=>P.readableRec t&&decide (t<P.types.size))=I) (TJ:(c.ifacesOut == fn.resultTypes.toList.any (P.ifacesRec ·))=I) (F5:(c.loopsOut == fn.resultTypes.toList.any (P.loopsFrom ·))=I)
  (TK:(c.plainKeys == P.plainKeys)=I) (F6:c.shortTexts.isNone=I) (TL:P.stopsHeard=I) (HG:P.mayEnter=I) (Wa:(c.lifted == P.liftsFinal)=I) (HI:(P.make == some c.make)=I)
  (h29:(c.kinds == (if c.domain.isEmpty then []else fn.params.toList.map fun t=>match P.underlying t with|some (.int k)=>some k|_=>none))=I) (HJ:(c.pinned == c.pinnedBy)=I)
  (qW:(c.veiled == (fn.params.toList++s.plain.varTypes P++fn.resultTypes.toList).any (P.veiledRec ·))=I) (h32:c.veiledFits P fn.params.toList (fn.params.toList++s.plain.varTypes P++fn.resultTypes.toList)=I):joinedFacts P f fn s c=I:=by
 simp only[joinedFacts,Bool.and_eq_true]
 exact⟨⟨⟨⟨⟨⟨⟨⟨⟨⟨⟨⟨⟨⟨⟨⟨⟨⟨⟨⟨⟨⟨⟨⟨⟨⟨⟨⟨⟨⟨⟨h1,h2⟩,h3⟩,h4⟩,h5⟩,h6⟩,h7⟩,h8⟩,h9⟩,iW⟩,nW⟩,lK⟩,px⟩,mZ⟩,uQ⟩,mY⟩,TH⟩,V9⟩,TI⟩,F4⟩,TJ⟩,F5⟩,TK⟩,F6⟩,TL⟩,HG⟩,Wa⟩,HI⟩,h29⟩,HJ⟩,qW⟩,h32⟩
end Go.Proofs.YtfopaakmgogpiaaGreatDoor
