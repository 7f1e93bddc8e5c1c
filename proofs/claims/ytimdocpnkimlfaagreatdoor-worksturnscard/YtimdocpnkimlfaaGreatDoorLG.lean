/- What plain data comes in; the library's variables out of a row's condition. -/
import Derived.Test.YtimdocpnkimlfaaGreatDoorAZ
import Derived.Test.YtimdocpnkimlfaaGreatDoorAbsO
import Derived.Test.YtimdocpnkimlfaaGreatDoorTie
import Derived.Test.YtimdocpnkimlfaaGreatDoorCards
set_option linter.unusedVariables false
set_option linter.unusedSimpArgs false
set_option maxRecDepth 100000
open Bool renaming true→I
namespace Go.Z
open Go Go.Abs Go.Proofs Go.RowKit
theorem qbv {y:AVal}(h:y.isAgg=false):y.flat=[y]:=by
 cases y<;>first|rfl|cases h
theorem q5h {y:AVal}(h:y.isAgg=I):y=.agg y.flat:=by
 cases y<;>first|rfl|cases h
theorem jzh:ownKnob Tryz.prog.godebug=none:=by kernel_rfl
theorem jcp:laidOutB Tryz.prog=I:=by kernel_rfl
theorem jod {laid}(hm:(n6,Lib.tabData .u64 Lib.pow10Tab)∈laid){W}(hsh:W.ShapedOpen Tryz.prog)(h:laidMet Tryz.prog laid W):Tabs Tryz.prog W:=
 jnl (jfp (gt:=1) (t:=357) (e:=339) (n:=20) (by kernel_rfl) (by kernel_rfl) (by kernel_rfl) (by kernel_rfl) (by kernel_rfl) (by kernel_rfl) hm h)
  (ji3 (gl:=0) (tl:=3) (zero:=#[.int .i64 0]) (by kernel_rfl) (of_decide_eq_true (by kernel_rfl)) (by kernel_rfl) rfl (by kernel_rfl) (by kernel_rfl) (by kernel_rfl) hsh)
  (fun x hx=>by
   simp only[Dk,List.mem_cons,List.not_mem_nil,or_false]at hx
   rcases hx with rfl|rfl|rfl
   ·exact S3 (by kernel_rfl)
   ·exact S3 (by kernel_rfl)
   ·exact S3 (by kernel_rfl))
end Go.Z
namespace Go.Proofs.YtimdocpnkimlfaaGreatDoor
open Go Go.Abs Go.Z Go.RowKit
theorem jcd {P:Program}{f:FuncId}{fn:Func}{s:ChangeSpec}{c:OpenClaim}(h1:c.wf (OpenSpec.ofChange s)=I)(h2:laidOutB P=I)(h3:mapsRowed P=I)
  (h4:fn.params.all (P.readableRec ·)=I) (h5:namedTie P c.named s.vars=I)
  (h6:(c.stops == [])=I) (h7:(P.stops == [])=I) (h8:(c.knobs == [])=I) (h9:(P.stopKnobs == [])=I)
  (lg:(c.inPlace == P.inPlace f)=I) (oB:(c.unfollowed == P.unfollowed f)=I) (mb:(c.recurses == P.recurses f)=I) (pR:(c.named == P.varsNamed f)=I)
  (nF:(c.maps == (fn.params.toList++s.plain.varTypes P).any (P.mapsRec ·))=I) (vC:(c.ifaces == (fn.params.toList++s.plain.varTypes P).any (P.ifacesRec ·))=I) (nE:(c.mapsOut == P.mapsAmong fn.resultTypes.toList)=I)
  (Gq:(c.loops == (fn.params.toList++s.plain.varTypes P).any (P.loopsFrom ·))=I) (Ja:(c.wideKeys == (fn.params.toList++s.plain.varTypes P++fn.resultTypes.toList).any (P.wideKeysFrom ·))=I)
  (RT:s.vars.all (P.varReadable ·)=I) (AX:fn.resultTypes.all (fun t=>P.readableRec t&&decide (t<P.types.size))=I) (RU:(c.ifacesOut == fn.resultTypes.toList.any (P.ifacesRec ·))=I) (Gs:(c.loopsOut == fn.resultTypes.toList.any (P.loopsFrom ·))=I)
  (Gr:(c.plainKeys == P.plainKeys)=I) (Gt:c.shortTexts.isNone=I) (RV:P.stopsHeard=I) (Xw:P.mayEnter=I) (h27:(c.lifted == P.liftsFinal)=I) (Xx:(P.make == some c.make)=I)
  (h29:(c.kinds == (if c.domain.isEmpty then []else fn.params.toList.map fun t=>match P.underlying t with|some (.int k)=>some k|_=>none))=I) (Jb:(c.pinned == c.pinnedBy)=I)
  (wT:(c.veiled == (fn.params.toList++s.plain.varTypes P++fn.resultTypes.toList).any (P.veiledRec ·))=I) (h32:c.veiledFits P fn.params.toList (fn.params.toList++s.plain.varTypes P++fn.resultTypes.toList)=I):joinedFacts P f fn s c=I:=by
 simp only[joinedFacts,Bool.and_eq_true]
 exact⟨⟨⟨⟨⟨⟨⟨⟨⟨⟨⟨⟨⟨⟨⟨⟨⟨⟨⟨⟨⟨⟨⟨⟨⟨⟨⟨⟨⟨⟨⟨h1,h2⟩,h3⟩,h4⟩,h5⟩,h6⟩,h7⟩,h8⟩,h9⟩,lg⟩,oB⟩,mb⟩,pR⟩,nF⟩,vC⟩,nE⟩,Gq⟩,Ja⟩,RT⟩,AX⟩,RU⟩,Gs⟩,Gr⟩,Gt⟩,RV⟩,Xw⟩,h27⟩,Xx⟩,h29⟩,Jb⟩,wT⟩,h32⟩
end Go.Proofs.YtimdocpnkimlfaaGreatDoor
namespace Go.Proofs.YtimdocpnkimlfaaGreatDoor
open Go Go.Abs Go.Z Go.RowKit
theorem jmt:mapsRowed Tryz.prog=I:=by kernel_rfl
theorem jnu:(Tryz.prog.stops == [])=I:=by kernel_rfl
theorem jnf:(Tryz.prog.stopKnobs == [])=I:=by kernel_rfl
theorem jow:(Rows.worksTurnsRow.plainKeys == Tryz.prog.plainKeys)=I:=by kernel_rfl
theorem jpf:Tryz.prog.stopsHeard=I:=by kernel_rfl
theorem jny:Tryz.prog.mayEnter=I:=by kernel_rfl
theorem jpp:(Rows.worksTurnsRow.lifted == Tryz.prog.liftsFinal)=I:=by kernel_rfl
theorem jue:(Tryz.prog.make == some Rows.worksTurnsRow.make)=I:=by kernel_rfl
theorem jvl : Tryz.prog.mainIs = some (I, "1bd47a6b7e681e5c8bd85b252bc129e10370a18833b6d87933be64800e006a4c".toList) := by kernel_rfl
theorem jpr:false=Tryz.prog.looks []:=by kernel_rfl
end Go.Proofs.YtimdocpnkimlfaaGreatDoor
