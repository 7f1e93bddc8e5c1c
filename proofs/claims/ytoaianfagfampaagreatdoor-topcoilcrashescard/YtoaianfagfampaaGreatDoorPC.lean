/- Closed facts of the program. -/
import Derived.Test.YtoaianfagfampaaGreatDoorLG
set_option linter.all false
set_option maxRecDepth 100000
open Bool renaming true->Eb
namespace Go.Proofs.YtoaianfagfampaaGreatDoor
open Go Go.Abs Go.Z Go.RowKit
theorem jfi {P:Program}{f:FuncId}{fn:Func}{s:ChangeSpec}{c:OpenClaim}(Y:c.wf (OpenSpec.ofChange s)=Eb)(I:laidOutB P=Eb)(h3:mapsRowed P=Eb)
  (h4:fn.params.all (P.readableRec ·)=Eb) (h5:namedTie P c.named s.vars=Eb)
  (h6:(c.stops == [])=Eb) (h7:(P.stops == [])=Eb) (h8:(c.knobs == [])=Eb) (h9:(P.stopKnobs == [])=Eb)
  (ep:(c.inPlace == P.inPlace f)=Eb) (gA:(c.unfollowed == P.unfollowed f)=Eb) (jL:(c.recurses == P.recurses f)=Eb) (ib:(c.named == P.varsNamed f)=Eb)
  (jM:(c.maps == (fn.params.toList++s.plain.varTypes P).any (P.mapsRec ·))=Eb) (qW:(c.ifaces == (fn.params.toList++s.plain.varTypes P).any (P.ifacesRec ·))=Eb) (jK:(c.mapsOut == P.mapsAmong fn.resultTypes.toList)=Eb)
  (uk:(c.loops == (fn.params.toList++s.plain.varTypes P).any (P.loopsFrom ·))=Eb) (JG:(c.wideKeys == (fn.params.toList++s.plain.varTypes P++fn.resultTypes.toList).any (P.wideKeysFrom ·))=Eb)
  (xS:s.vars.all (P.varReadable ·)=Eb) (sE:fn.resultTypes.all (fun t=>P.readableRec t&&decide (t<P.types.size))=Eb) (sF:(c.ifacesOut == fn.resultTypes.toList.any (P.ifacesRec ·))=Eb) (pB:(c.loopsOut == fn.resultTypes.toList.any (P.loopsFrom ·))=Eb)
  (sG:(c.plainKeys == P.plainKeys)=Eb) (vR:c.shortTexts.isNone=Eb) (vS:P.stopsHeard=Eb) (rj:P.mayEnter=Eb) (wO:(c.lifted == P.liftsFinal)=Eb) (vf:(P.make == some c.make)=Eb)
  (BK:(c.kinds == (if c.domain.isEmpty then []else fn.params.toList.map fun t=>match P.underlying t with|some (.int k)=>some k|_=>none))=Eb) (yT:(c.pinned == c.pinnedBy)=Eb)
  (mM:(c.veiled == (fn.params.toList++s.plain.varTypes P++fn.resultTypes.toList).any (P.veiledRec ·))=Eb) (ND:c.veiledFits P fn.params.toList (fn.params.toList++s.plain.varTypes P++fn.resultTypes.toList)=Eb):joinedFacts P f fn s c=Eb:=by
 simp only[joinedFacts,Bool.and_eq_true];exact⟨⟨⟨⟨⟨⟨⟨⟨⟨⟨⟨⟨⟨⟨⟨⟨⟨⟨⟨⟨⟨⟨⟨⟨⟨⟨⟨⟨⟨⟨⟨Y,I⟩,h3⟩,h4⟩,h5⟩,h6⟩,h7⟩,h8⟩,h9⟩,ep⟩,gA⟩,jL⟩,ib⟩,jM⟩,qW⟩,jK⟩,uk⟩,JG⟩,xS⟩,sE⟩,sF⟩,pB⟩,sG⟩,vR⟩,vS⟩,rj⟩,wO⟩,vf⟩,BK⟩,yT⟩,mM⟩,ND⟩
end Go.Proofs.YtoaianfagfampaaGreatDoor
namespace Go.Proofs.YtoaianfagfampaaGreatDoor
open Go Go.Abs Go.Z Go.RowKit
theorem jnt:mapsRowed Tryz.prog=Eb:=by kernel_rfl
theorem jor:(Tryz.prog.stops == [])=Eb:=by kernel_rfl
theorem jqx:(Tryz.prog.stopKnobs == [])=Eb:=by kernel_rfl
theorem jng:(Rows.topCoilCrashesRow.plainKeys == Tryz.prog.plainKeys)=Eb:=by kernel_rfl
theorem jqq:Tryz.prog.stopsHeard=Eb:=by kernel_rfl
theorem jo1:Tryz.prog.mayEnter=Eb:=by kernel_rfl
theorem jo7:(Rows.topCoilCrashesRow.lifted == Tryz.prog.liftsFinal)=Eb:=by kernel_rfl
theorem jui:(Tryz.prog.make == some Rows.topCoilCrashesRow.make)=Eb:=by kernel_rfl
theorem jsf : Tryz.prog.mainIs = some (Eb, "dfa8ae539e78c4fb14fcf0ba18d2bdbfe3fb8d47874de69a7cb941a8488a4277".toList) := by kernel_rfl
theorem jov:false=Tryz.prog.looks []:=by kernel_rfl
end Go.Proofs.YtoaianfagfampaaGreatDoor
namespace Go.Proofs.YtoaianfagfampaaGreatDoor
open Go Go.Abs Go.Z Go.RowKit
theorem j1s:Rows.topCoilCrashesRow.wf (OpenSpec.ofChange Rows.topCoilCrashesSpec)=Eb:=by kernel_rfl
theorem q9h:Tryz.f3.params.all (Tryz.prog.readableRec ·)=Eb:=by kernel_rfl
theorem juf:namedTie Tryz.prog Rows.topCoilCrashesRow.named Rows.topCoilCrashesSpec.vars=Eb:=by kernel_rfl
theorem jdp:(Rows.topCoilCrashesRow.inPlace == Tryz.prog.inPlace 3)=Eb:=by kernel_rfl
theorem q3m:(Rows.topCoilCrashesRow.unfollowed == Tryz.prog.unfollowed 3)=Eb:=by kernel_rfl
theorem q8v:(Rows.topCoilCrashesRow.recurses == Tryz.prog.recurses 3)=Eb:=by kernel_rfl
theorem jkp:(Rows.topCoilCrashesRow.named == Tryz.prog.varsNamed 3)=Eb:=by kernel_rfl
theorem c3_named2 : Tryz.prog.funcNamed "woofer/woofertop.TopCoilCrashes" = some 3 := by kernel_rfl
theorem jpq:Tryz.f3.isInstance Tryz.prog Rows.topCoilCrashesRow.origin Rows.topCoilCrashesRow.targs:=of_decide_eq_true (by kernel_rfl)
theorem jni:Tryz.f3.isWrapper Tryz.prog Rows.topCoilCrashesRow.wrapper Rows.topCoilCrashesRow.mainSum:=by
 unfold Func.isWrapper;first|(rw[if_pos (by decide +kernel)];kernel_rfl)|(rw[if_neg (by decide +kernel)];exact⟨rfl,rfl⟩)
theorem jqp:false=Rows.topCoilCrashesRow.goesBy Tryz.prog:=by kernel_rfl
theorem jhc:Rows.topCoilCrashesRow.wfByText (OpenSpec.ofChange Rows.topCoilCrashesSpec)=Eb:=by kernel_rfl
theorem jgj:joinedFacts Tryz.prog 3 Tryz.f3 Rows.topCoilCrashesSpec Rows.topCoilCrashesRow=Eb:=
 jfi j1s jet jnt q9h juf (by kernel_rfl) jor (by kernel_rfl) jqx jdp q3m q8v jkp
  (by kernel_rfl) (by kernel_rfl) (by kernel_rfl) (by kernel_rfl) (by kernel_rfl) (by kernel_rfl) (by kernel_rfl) (by kernel_rfl) (by kernel_rfl) jng (by kernel_rfl) jqq jo1 jo7 jui (by kernel_rfl) (by kernel_rfl) (by kernel_rfl) (by kernel_rfl)
end Go.Proofs.YtoaianfagfampaaGreatDoor
