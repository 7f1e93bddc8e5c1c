/- What plain data comes in; the library's variables out of a row's condition. -/
import Derived.Test.YtimdocpnkimlfaaGreatDoorAZ
import Derived.Test.YtimdocpnkimlfaaGreatDoorAbsO
import Derived.Test.YtimdocpnkimlfaaGreatDoorTie
import Derived.Test.YtimdocpnkimlfaaGreatDoorCards
set_option linter.unusedVariables false
set_option linter.unusedSimpArgs false
set_option maxRecDepth 100000
open Bool renaming true→I,and_eq_true→En
namespace Go.Z
open Go Go.Abs Go.Proofs Go.RowKit
theorem qby {y:AVal}(h:y.isAgg=false):y.flat=[y]:=by
 cases y<;>first|rfl|cases h
theorem q6h {y:AVal}(h:y.isAgg=I):y=.agg y.flat:=by
 cases y<;>first|rfl|cases h
theorem j17:ownKnob Tryz.prog.godebug=none:=by kernel_rfl
theorem jdo:laidOutB Tryz.prog=I:=by kernel_rfl
theorem jq8 {laid}(hm:(oc,Lib.tabData .u64 Lib.pow10Tab)∈laid){W}(hsh:W.ShapedOpen Tryz.prog)(h:laidMet Tryz.prog laid W):Tabs Tryz.prog W:=
 jqt (jg8 (gt:=1) (t:=357) (e:=339) (n:=20) (by kernel_rfl) (by kernel_rfl) (by kernel_rfl) (by kernel_rfl) (by kernel_rfl) (by kernel_rfl) hm h)
  (jjg (gl:=0) (tl:=3) (zero:=#[.int .i64 0]) (by kernel_rfl) (of_decide_eq_true (by kernel_rfl)) (by kernel_rfl) rfl (by kernel_rfl) (by kernel_rfl) (by kernel_rfl) hsh)
  (fun x hx=>by
   simp only[Du,List.mem_cons,List.not_mem_nil,or_false]at hx
   rcases hx with rfl|rfl|rfl
   ·exact Tq (by kernel_rfl)
   ·exact Tq (by kernel_rfl)
   ·exact Tq (by kernel_rfl))
theorem jnm {x:Int}(h:(Lit.int .u8 x).wf=I):0≤x∧x≤255:=by
 simp only[Lit.wf,En,decide_eq_true_eq]at h
 have e1:IntKind.min .u8=0:=by decide
 have e2:IntKind.max .u8=255:=by decide
 omega
end Go.Z
namespace Go.Proofs.YtimdocpnkimlfaaGreatDoor
open Go Go.Abs Go.Z Go.RowKit
theorem jez {P:Program}{f:FuncId}{fn:Func}{s:ChangeSpec}{c:OpenClaim}(h1:c.wf (OpenSpec.ofChange s)=I)(h2:laidOutB P=I)(h3:mapsRowed P=I)
  (h4:fn.params.all (P.readableRec ·)=I) (h5:namedTie P c.named s.vars=I)
  (h6:(c.stops == [])=I) (h7:(P.stops == [])=I) (h8:(c.knobs == [])=I) (h9:(P.stopKnobs == [])=I)
  (lf:(c.inPlace == P.inPlace f)=I) (lC:(c.unfollowed == P.unfollowed f)=I) (l3:(c.recurses == P.recurses f)=I) (pW:(c.named == P.varsNamed f)=I)
  (pf:(c.maps == (fn.params.toList++s.plain.varTypes P).any (P.mapsRec ·))=I) (vS:(c.ifaces == (fn.params.toList++s.plain.varTypes P).any (P.ifacesRec ·))=I) (nL:(c.mapsOut == P.mapsAmong fn.resultTypes.toList)=I)
  (Sg:(c.loops == (fn.params.toList++s.plain.varTypes P).any (P.loopsFrom ·))=I) (XJ:(c.wideKeys == (fn.params.toList++s.plain.varTypes P++fn.resultTypes.toList).any (P.wideKeysFrom ·))=I)
  (Sh:s.vars.all (P.varReadable ·)=I) (A2:fn.resultTypes.all (fun t=>P.readableRec t&&decide (t<P.types.size))=I) (Gt:(c.ifacesOut == fn.resultTypes.toList.any (P.ifacesRec ·))=I) (A3:(c.loopsOut == fn.resultTypes.toList.any (P.loopsFrom ·))=I)
  (Gu:(c.plainKeys == P.plainKeys)=I) (Gv:c.shortTexts.isNone=I) (Si:P.stopsHeard=I) (XK:P.mayEnter=I) (h27:(c.lifted == P.liftsFinal)=I) (B6:(P.make == some c.make)=I)
  (h29:(c.kinds == (if c.domain.isEmpty then []else fn.params.toList.map fun t=>match P.underlying t with|some (.int k)=>some k|_=>none))=I) (B7:(c.pinned == c.pinnedBy)=I)
  (xf:(c.veiled == (fn.params.toList++s.plain.varTypes P++fn.resultTypes.toList).any (P.veiledRec ·))=I) (XL:c.veiledFits P fn.params.toList (fn.params.toList++s.plain.varTypes P++fn.resultTypes.toList)=I):joinedFacts P f fn s c=I:=by
 simp only[joinedFacts,En]
 exact⟨⟨⟨⟨⟨⟨⟨⟨⟨⟨⟨⟨⟨⟨⟨⟨⟨⟨⟨⟨⟨⟨⟨⟨⟨⟨⟨⟨⟨⟨⟨h1,h2⟩,h3⟩,h4⟩,h5⟩,h6⟩,h7⟩,h8⟩,h9⟩,lf⟩,lC⟩,l3⟩,pW⟩,pf⟩,vS⟩,nL⟩,Sg⟩,XJ⟩,Sh⟩,A2⟩,Gt⟩,A3⟩,Gu⟩,Gv⟩,Si⟩,XK⟩,h27⟩,B6⟩,h29⟩,B7⟩,xf⟩,XL⟩
end Go.Proofs.YtimdocpnkimlfaaGreatDoor
namespace Go.Proofs.YtimdocpnkimlfaaGreatDoor
open Go Go.Abs Go.Z Go.RowKit
theorem joa:mapsRowed Tryz.prog=I:=by kernel_rfl
theorem joc:(Tryz.prog.stops == [])=I:=by kernel_rfl
theorem jph:(Tryz.prog.stopKnobs == [])=I:=by kernel_rfl
theorem jpd:(Rows.worksTurnsRow.plainKeys == Tryz.prog.plainKeys)=I:=by kernel_rfl
theorem jod:Tryz.prog.stopsHeard=I:=by kernel_rfl
theorem jpz:Tryz.prog.mayEnter=I:=by kernel_rfl
theorem job:(Rows.worksTurnsRow.lifted == Tryz.prog.liftsFinal)=I:=by kernel_rfl
theorem jtz:(Tryz.prog.make == some Rows.worksTurnsRow.make)=I:=by kernel_rfl
theorem jyg : Tryz.prog.mainIs = some (I, "1bd47a6b7e681e5c8bd85b252bc129e10370a18833b6d87933be64800e006a4c".toList) := by kernel_rfl
theorem jp4:false=Tryz.prog.looks []:=by kernel_rfl
end Go.Proofs.YtimdocpnkimlfaaGreatDoor
