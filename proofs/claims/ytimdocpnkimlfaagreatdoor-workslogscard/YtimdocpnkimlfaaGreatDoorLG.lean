/- What plain data comes in; the library's variables out of a row's condition. -/
import Derived.Test.YtimdocpnkimlfaaGreatDoorAZ
import Derived.Test.YtimdocpnkimlfaaGreatDoorAbsO
import Derived.Test.YtimdocpnkimlfaaGreatDoorTie
import Derived.Test.YtimdocpnkimlfaaGreatDoorCards
set_option linter.unusedVariables false
set_option linter.unusedSimpArgs false
set_option maxRecDepth 100000
open Bool renaming true→I
namespace Go.Z
open Go Go.Abs Go.Proofs Go.RowKit
theorem qag {y:AVal}(h:y.isAgg=false):y.flat=[y]:=by
 cases y<;>first|rfl|cases h
theorem jb7 {y:AVal}(h:y.isAgg=I):y=.agg y.flat:=by
 cases y<;>first|rfl|cases h
theorem jsm:ownKnob Tryz.prog.godebug=none:=by kernel_rfl
theorem q4x:laidOutB Tryz.prog=I:=by kernel_rfl
theorem jel {laid}(hm:(l9,Lib.tabData .u64 Lib.pow10Tab)∈laid){W}(hsh:W.ShapedOpen Tryz.prog)(h:laidMet Tryz.prog laid W):Tabs Tryz.prog W:=
 jd6 (q9x (gt:=1) (t:=357) (e:=339) (n:=20) (by kernel_rfl) (by kernel_rfl) (by kernel_rfl) (by kernel_rfl) (by kernel_rfl) (by kernel_rfl) hm h)
  (q7t (gl:=0) (tl:=3) (zero:=#[.int .i64 0]) (by kernel_rfl) (of_decide_eq_true (by kernel_rfl)) (by kernel_rfl) rfl (by kernel_rfl) (by kernel_rfl) (by kernel_rfl) hsh)
  (fun x hx=>by
   simp only[AZ,List.mem_cons,List.not_mem_nil,or_false]at hx
   rcases hx with rfl|rfl|rfl
   ·exact Qm (by kernel_rfl)
   ·exact Qm (by kernel_rfl)
   ·exact Qm (by kernel_rfl))
end Go.Z
namespace Go.Proofs.YtimdocpnkimlfaaGreatDoor
open Go Go.Abs Go.Z Go.RowKit
theorem q49 {P:Program}{f:FuncId}{fn:Func}{s:ChangeSpec}{c:OpenClaim}(h1:c.wf (OpenSpec.ofChange s)=I)(h2:laidOutB P=I)(h3:mapsRowed P=I)
  (h4:fn.params.all (P.readableRec ·)=I) (h5:namedTie P c.named s.vars=I)
  (h6:(c.stops == [])=I) (h7:(P.stops == [])=I) (h8:(c.knobs == [])=I) (h9:(P.stopKnobs == [])=I)
  (iu:(c.inPlace == P.inPlace f)=I) (de:(c.unfollowed == P.unfollowed f)=I) (lP:(c.recurses == P.recurses f)=I) (dM:(c.named == P.varsNamed f)=I)
  (dw:(c.maps == (fn.params.toList++s.plain.varTypes P).any (P.mapsRec ·))=I) (gO:(c.ifaces == (fn.params.toList++s.plain.varTypes P).any (P.ifacesRec ·))=I) (jY:(c.mapsOut == P.mapsAmong fn.resultTypes.toList)=I)
  (fC:(c.loops == (fn.params.toList++s.plain.varTypes P).any (P.loopsFrom ·))=I) (mN:(c.wideKeys == (fn.params.toList++s.plain.varTypes P++fn.resultTypes.toList).any (P.wideKeysFrom ·))=I)
  (dJ:s.vars.all (P.varReadable ·)=I) (jW:fn.resultTypes.all (fun t=>P.readableRec t&&decide (t<P.types.size))=I) (dL:(c.ifacesOut == fn.resultTypes.toList.any (P.ifacesRec ·))=I) (gj:(c.loopsOut == fn.resultTypes.toList.any (P.loopsFrom ·))=I)
  (gX:(c.plainKeys == P.plainKeys)=I) (lg:c.shortTexts.isNone=I) (jI:P.stopsHeard=I) (ez:P.mayEnter=I) (fJ:(c.lifted == P.liftsFinal)=I) (dW:(P.make == some c.make)=I)
  (nv:(c.kinds == (if c.domain.isEmpty then []else fn.params.toList.map fun t=>match P.underlying t with|some (.int k)=>some k|_=>none))=I) (dS:(c.pinned == c.pinnedBy)=I)
  (eE:(c.veiled == (fn.params.toList++s.plain.varTypes P++fn.resultTypes.toList).any (P.veiledRec ·))=I) (iQ:c.veiledFits P fn.params.toList (fn.params.toList++s.plain.varTypes P++fn.resultTypes.toList)=I):joinedFacts P f fn s c=I:=by
 simp only[joinedFacts,Bool.and_eq_true]
 exact⟨⟨⟨⟨⟨⟨⟨⟨⟨⟨⟨⟨⟨⟨⟨⟨⟨⟨⟨⟨⟨⟨⟨⟨⟨⟨⟨⟨⟨⟨⟨h1,h2⟩,h3⟩,h4⟩,h5⟩,h6⟩,h7⟩,h8⟩,h9⟩,iu⟩,de⟩,lP⟩,dM⟩,dw⟩,gO⟩,jY⟩,fC⟩,mN⟩,dJ⟩,jW⟩,dL⟩,gj⟩,gX⟩,lg⟩,jI⟩,ez⟩,fJ⟩,dW⟩,nv⟩,dS⟩,eE⟩,iQ⟩
end Go.Proofs.YtimdocpnkimlfaaGreatDoor
namespace Go.Proofs.YtimdocpnkimlfaaGreatDoor
open Go Go.Abs Go.Z Go.RowKit
theorem jdo:mapsRowed Tryz.prog=I:=by kernel_rfl
theorem jd7:(Tryz.prog.stops == [])=I:=by kernel_rfl
theorem jet:(Tryz.prog.stopKnobs == [])=I:=by kernel_rfl
theorem jff:(Rows.worksTurnsRow.plainKeys == Tryz.prog.plainKeys)=I:=by kernel_rfl
theorem jed:Tryz.prog.stopsHeard=I:=by kernel_rfl
theorem je2:Tryz.prog.mayEnter=I:=by kernel_rfl
theorem je5:(Rows.worksTurnsRow.lifted == Tryz.prog.liftsFinal)=I:=by kernel_rfl
theorem jf4:(Tryz.prog.make == some Rows.worksTurnsRow.make)=I:=by kernel_rfl
theorem jf3 : Tryz.prog.mainIs = some (I, "1bd47a6b7e681e5c8bd85b252bc129e10370a18833b6d87933be64800e006a4c".toList) := by kernel_rfl
theorem jez:false=Tryz.prog.looks []:=by kernel_rfl
end Go.Proofs.YtimdocpnkimlfaaGreatDoor
