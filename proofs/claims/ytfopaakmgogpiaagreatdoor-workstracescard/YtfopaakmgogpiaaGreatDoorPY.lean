/- Closed facts of the program. -/
import Derived.Test.YtfopaakmgogpiaaGreatDoorLG
set_option linter.unusedVariables false
set_option linter.unusedSimpArgs false
set_option maxRecDepth 100000
open Bool renaming true→I
namespace Go.Proofs.YtfopaakmgogpiaaGreatDoor
open Go Go.Abs Go.Z Go.RowKit
theorem jcj {P:Program}{f:FuncId}{fn:Func}{s:ChangeSpec}{c:OpenClaim}(h1:c.wf (OpenSpec.ofChange s)=I)(h2:laidOutB P=I)(h3:mapsRowed P=I)
  (h4:fn.params.all (P.readableRec ·)=I) (h5:namedTie P c.named s.vars=I)
  (h6:(c.stops == [])=I) (h7:(P.stops == [])=I) (h8:(c.knobs == [])=I) (h9:(P.stopKnobs == [])=I)
  (kJ:(c.inPlace == P.inPlace f)=I) (nS:(c.unfollowed == P.unfollowed f)=I) (lH:(c.recurses == P.recurses f)=I) (u0:(c.named == P.varsNamed f)=I)
  (oz:(c.maps == (fn.params.toList++s.plain.varTypes P).any (P.mapsRec ·))=I) (ym:(c.ifaces == (fn.params.toList++s.plain.varTypes P).any (P.ifacesRec ·))=I) (ox:(c.mapsOut == P.mapsAmong fn.resultTypes.toList)=I)
  (TL:(c.loops == (fn.params.toList++s.plain.varTypes P).any (P.loopsFrom ·))=I) (VZ:(c.wideKeys == (fn.params.toList++s.plain.varTypes P++fn.resultTypes.toList).any (P.wideKeysFrom ·))=I)
  (Gd:s.vars.all (P.varReadable ·)=I) (Aq:fn.resultTypes.all (fun t=>P.readableRec t&&decide (t<P.types.size))=I) (Ge:(c.ifacesOut == fn.resultTypes.toList.any (P.ifacesRec ·))=I) (Ar:(c.loopsOut == fn.resultTypes.toList.any (P.loopsFrom ·))=I)
  (Gf:(c.plainKeys == P.plainKeys)=I) (As:c.shortTexts.isNone=I) (Gg:P.stopsHeard=I) (HR:P.mayEnter=I) (V0:(c.lifted == P.liftsFinal)=I) (HS:(P.make == some c.make)=I)
  (V1:(c.kinds == (if c.domain.isEmpty then []else fn.params.toList.map fun t=>match P.underlying t with|some (.int k)=>some k|_=>none))=I) (HT:(c.pinned == c.pinnedBy)=I)
  (rj:(c.veiled == (fn.params.toList++s.plain.varTypes P++fn.resultTypes.toList).any (P.veiledRec ·))=I) (V2:c.veiledFits P fn.params.toList (fn.params.toList++s.plain.varTypes P++fn.resultTypes.toList)=I):joinedFacts P f fn s c=I:=by
 simp only[joinedFacts,Bool.and_eq_true]
 exact⟨⟨⟨⟨⟨⟨⟨⟨⟨⟨⟨⟨⟨⟨⟨⟨⟨⟨⟨⟨⟨⟨⟨⟨⟨⟨⟨⟨⟨⟨⟨h1,h2⟩,h3⟩,h4⟩,h5⟩,h6⟩,h7⟩,h8⟩,h9⟩,kJ⟩,nS⟩,lH⟩,u0⟩,oz⟩,ym⟩,ox⟩,TL⟩,VZ⟩,Gd⟩,Aq⟩,Ge⟩,Ar⟩,Gf⟩,As⟩,Gg⟩,HR⟩,V0⟩,HS⟩,V1⟩,HT⟩,rj⟩,V2⟩
end Go.Proofs.YtfopaakmgogpiaaGreatDoor
namespace Go.Proofs.YtfopaakmgogpiaaGreatDoor
open Go Go.Abs Go.Z Go.RowKit
theorem jlt:mapsRowed Tryz.prog=I:=by kernel_rfl
theorem jlo:(Tryz.prog.stops == [])=I:=by kernel_rfl
theorem jli:(Tryz.prog.stopKnobs == [])=I:=by kernel_rfl
theorem jmq:(Rows.worksEventsRow.plainKeys == Tryz.prog.plainKeys)=I:=by kernel_rfl
theorem jj9:Tryz.prog.stopsHeard=I:=by kernel_rfl
theorem jmg:Tryz.prog.mayEnter=I:=by kernel_rfl
theorem jlz:(Rows.worksEventsRow.lifted == Tryz.prog.liftsFinal)=I:=by kernel_rfl
theorem jo6:(Tryz.prog.make == some Rows.worksEventsRow.make)=I:=by kernel_rfl
theorem jsw : Tryz.prog.mainIs = some (I, "6129b98b9c5c6310e220ac45be93c11f79b838ff938c88dd71e495a1e58b721a".toList) := by kernel_rfl
theorem jly:false=Tryz.prog.looks []:=by kernel_rfl
end Go.Proofs.YtfopaakmgogpiaaGreatDoor
