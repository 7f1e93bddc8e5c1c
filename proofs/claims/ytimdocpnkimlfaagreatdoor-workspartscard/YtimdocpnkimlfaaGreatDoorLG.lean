/- What plain data comes in; the library's variables out of a row's condition. -/
import Derived.Test.YtimdocpnkimlfaaGreatDoorAZ
import Derived.Test.YtimdocpnkimlfaaGreatDoorAbsO
import Derived.Test.YtimdocpnkimlfaaGreatDoorTie
import Derived.Test.YtimdocpnkimlfaaGreatDoorCards
set_option linter.unusedVariables false
set_option linter.unusedSimpArgs false
set_option maxRecDepth 100000
open Bool renaming true→I
namespace Go.Z
open Go Go.Abs Go.Proofs Go.RowKit
theorem qa4 {y:AVal}(h:y.isAgg=false):y.flat=[y]:=by
 cases y<;>first|rfl|cases h
theorem q55 {y:AVal}(h:y.isAgg=I):y=.agg y.flat:=by
 cases y<;>first|rfl|cases h
theorem joe:ownKnob Tryz.prog.godebug=none:=by kernel_rfl
theorem qxz:laidOutB Tryz.prog=I:=by kernel_rfl
theorem q8x {laid}(hm:(ol,Lib.tabData .u64 Lib.pow10Tab)∈laid){W}(hsh:W.ShapedOpen Tryz.prog)(h:laidMet Tryz.prog laid W):Tabs Tryz.prog W:=
 jrk (jjy (gt:=1) (t:=357) (e:=339) (n:=20) (by kernel_rfl) (by kernel_rfl) (by kernel_rfl) (by kernel_rfl) (by kernel_rfl) (by kernel_rfl) hm h)
  (jhf (gl:=0) (tl:=3) (zero:=#[.int .i64 0]) (by kernel_rfl) (of_decide_eq_true (by kernel_rfl)) (by kernel_rfl) rfl (by kernel_rfl) (by kernel_rfl) (by kernel_rfl) hsh)
  (fun x hx=>by
   simp only[Ev,List.mem_cons,List.not_mem_nil,or_false]at hx
   rcases hx with rfl|rfl|rfl
   ·exact Xm (by kernel_rfl)
   ·exact Xm (by kernel_rfl)
   ·exact Xm (by kernel_rfl))
end Go.Z
namespace Go.Proofs.YtimdocpnkimlfaaGreatDoor
open Go Go.Abs Go.Z Go.RowKit
theorem q0m {P:Program}{f:FuncId}{fn:Func}{s:ChangeSpec}{c:OpenClaim}(h1:c.wf (OpenSpec.ofChange s)=I)(h2:laidOutB P=I)(h3:mapsRowed P=I)
  (h4:fn.params.all (P.readableRec ·)=I) (h5:namedTie P c.named s.vars=I)
  (h6:(c.stops == [])=I) (h7:(P.stops == [])=I) (h8:(c.knobs == [])=I) (h9:(P.stopKnobs == [])=I)
  (l8:(c.inPlace == P.inPlace f)=I) (oJ:(c.unfollowed == P.unfollowed f)=I) (l9:(c.recurses == P.recurses f)=I) (vZ:(c.named == P.varsNamed f)=I)
  (po:(c.maps == (fn.params.toList++s.plain.varTypes P).any (P.mapsRec ·))=I) (wc:(c.ifaces == (fn.params.toList++s.plain.varTypes P).any (P.ifacesRec ·))=I) (nS:(c.mapsOut == P.mapsAmong fn.resultTypes.toList)=I)
  (Wj:(c.loops == (fn.params.toList++s.plain.varTypes P).any (P.loopsFrom ·))=I) (YC:(c.wideKeys == (fn.params.toList++s.plain.varTypes P++fn.resultTypes.toList).any (P.wideKeysFrom ·))=I)
  (Wk:s.vars.all (P.varReadable ·)=I) (BO:fn.resultTypes.all (fun t=>P.readableRec t&&decide (t<P.types.size))=I) (HC:(c.ifacesOut == fn.resultTypes.toList.any (P.ifacesRec ·))=I) (BP:(c.loopsOut == fn.resultTypes.toList.any (P.loopsFrom ·))=I)
  (HD:(c.plainKeys == P.plainKeys)=I) (BQ:c.shortTexts.isNone=I) (HE:P.stopsHeard=I) (JR:P.mayEnter=I) (YD:(c.lifted == P.liftsFinal)=I) (JS:(P.make == some c.make)=I)
  (h29:(c.kinds == (if c.domain.isEmpty then []else fn.params.toList.map fun t=>match P.underlying t with|some (.int k)=>some k|_=>none))=I) (JT:(c.pinned == c.pinnedBy)=I)
  (xq:(c.veiled == (fn.params.toList++s.plain.varTypes P++fn.resultTypes.toList).any (P.veiledRec ·))=I) (h32:c.veiledFits P fn.params.toList (fn.params.toList++s.plain.varTypes P++fn.resultTypes.toList)=I):joinedFacts P f fn s c=I:=by
 simp only[joinedFacts,Bool.and_eq_true]
 exact⟨⟨⟨⟨⟨⟨⟨⟨⟨⟨⟨⟨⟨⟨⟨⟨⟨⟨⟨⟨⟨⟨⟨⟨⟨⟨⟨⟨⟨⟨⟨h1,h2⟩,h3⟩,h4⟩,h5⟩,h6⟩,h7⟩,h8⟩,h9⟩,l8⟩,oJ⟩,l9⟩,vZ⟩,po⟩,wc⟩,nS⟩,Wj⟩,YC⟩,Wk⟩,BO⟩,HC⟩,BP⟩,HD⟩,BQ⟩,HE⟩,JR⟩,YD⟩,JS⟩,h29⟩,JT⟩,xq⟩,h32⟩
end Go.Proofs.YtimdocpnkimlfaaGreatDoor
namespace Go.Proofs.YtimdocpnkimlfaaGreatDoor
open Go Go.Abs Go.Z Go.RowKit
theorem q8n:mapsRowed Tryz.prog=I:=by kernel_rfl
theorem q9l:(Tryz.prog.stops == [])=I:=by kernel_rfl
theorem q8o:(Tryz.prog.stopKnobs == [])=I:=by kernel_rfl
theorem q9i:(Rows.worksTurnsRow.plainKeys == Tryz.prog.plainKeys)=I:=by kernel_rfl
theorem q82:Tryz.prog.stopsHeard=I:=by kernel_rfl
theorem q8v:Tryz.prog.mayEnter=I:=by kernel_rfl
theorem q8g:(Rows.worksTurnsRow.lifted == Tryz.prog.liftsFinal)=I:=by kernel_rfl
theorem jfm:(Tryz.prog.make == some Rows.worksTurnsRow.make)=I:=by kernel_rfl
theorem je2 : Tryz.prog.mainIs = some (I, "1bd47a6b7e681e5c8bd85b252bc129e10370a18833b6d87933be64800e006a4c".toList) := by kernel_rfl
theorem q85:false=Tryz.prog.looks []:=by kernel_rfl
end Go.Proofs.YtimdocpnkimlfaaGreatDoor
