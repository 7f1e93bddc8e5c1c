/- What plain data comes in; the library's variables out of a row's condition. -/
import Derived.Test.YtimdocpnkimlfaaGreatDoorAZ
import Derived.Test.YtimdocpnkimlfaaGreatDoorAbsO
import Derived.Test.YtimdocpnkimlfaaGreatDoorTie
import Derived.Test.YtimdocpnkimlfaaGreatDoorCards
set_option linter.unusedVariables false
set_option linter.unusedSimpArgs false
set_option maxRecDepth 100000
open Bool renaming true→I,and_eq_true→En
namespace Go.Z
open Go Go.Abs Go.Proofs Go.RowKit
theorem qa5 {y:AVal}(h:y.isAgg=false):y.flat=[y]:=by
 cases y<;>first|rfl|cases h
theorem jgb {y:AVal}(h:y.isAgg=I):y=.agg y.flat:=by
 cases y<;>first|rfl|cases h
theorem j4b:ownKnob Tryz.prog.godebug=none:=by kernel_rfl
theorem jdt:laidOutB Tryz.prog=I:=by kernel_rfl
theorem jp7 {laid}(hm:(nX,Lib.tabData .u64 Lib.pow10Tab)∈laid){W}(hsh:W.ShapedOpen Tryz.prog)(h:laidMet Tryz.prog laid W):Tabs Tryz.prog W:=
 jnm (jgs (gt:=1) (t:=357) (e:=339) (n:=20) (by kernel_rfl) (by kernel_rfl) (by kernel_rfl) (by kernel_rfl) (by kernel_rfl) (by kernel_rfl) hm h)
  (jh8 (gl:=0) (tl:=3) (zero:=#[.int .i64 0]) (by kernel_rfl) (of_decide_eq_true (by kernel_rfl)) (by kernel_rfl) rfl (by kernel_rfl) (by kernel_rfl) (by kernel_rfl) hsh)
  (fun x hx=>by
   simp only[Du,List.mem_cons,List.not_mem_nil,or_false]at hx
   rcases hx with rfl|rfl|rfl
   ·exact Tl (by kernel_rfl)
   ·exact Tl (by kernel_rfl)
   ·exact Tl (by kernel_rfl))
theorem jmc {x:Int}(h:(Lit.int .u8 x).wf=I):0≤x∧x≤255:=by
 simp only[Lit.wf,En,decide_eq_true_eq]at h
 have e1:IntKind.min .u8=0:=by decide
 have e2:IntKind.max .u8=255:=by decide
 omega
end Go.Z
namespace Go.Proofs.YtimdocpnkimlfaaGreatDoor
open Go Go.Abs Go.Z Go.RowKit
theorem jdu {P:Program}{f:FuncId}{fn:Func}{s:ChangeSpec}{c:OpenClaim}(h1:c.wf (OpenSpec.ofChange s)=I)(h2:laidOutB P=I)(h3:mapsRowed P=I)
  (h4:fn.params.all (P.readableRec ·)=I) (h5:namedTie P c.named s.vars=I)
  (h6:(c.stops == [])=I) (h7:(P.stops == [])=I) (h8:(c.knobs == [])=I) (h9:(P.stopKnobs == [])=I)
  (lZ:(c.inPlace == P.inPlace f)=I) (oz:(c.unfollowed == P.unfollowed f)=I) (l3:(c.recurses == P.recurses f)=I) (vK:(c.named == P.varsNamed f)=I)
  (oW:(c.maps == (fn.params.toList++s.plain.varTypes P).any (P.mapsRec ·))=I) (vL:(c.ifaces == (fn.params.toList++s.plain.varTypes P).any (P.ifacesRec ·))=I) (nB:(c.mapsOut == P.mapsAmong fn.resultTypes.toList)=I)
  (Gu:(c.loops == (fn.params.toList++s.plain.varTypes P).any (P.loopsFrom ·))=I) (Jg:(c.wideKeys == (fn.params.toList++s.plain.varTypes P++fn.resultTypes.toList).any (P.wideKeysFrom ·))=I)
  (Gv:s.vars.all (P.varReadable ·)=I) (A4:fn.resultTypes.all (fun t=>P.readableRec t&&decide (t<P.types.size))=I) (Sc:(c.ifacesOut == fn.resultTypes.toList.any (P.ifacesRec ·))=I) (Gx:(c.loopsOut == fn.resultTypes.toList.any (P.loopsFrom ·))=I)
  (Gw:(c.plainKeys == P.plainKeys)=I) (Gy:c.shortTexts.isNone=I) (Sd:P.stopsHeard=I) (XO:P.mayEnter=I) (h27:(c.lifted == P.liftsFinal)=I) (XP:(P.make == some c.make)=I)
  (h29:(c.kinds == (if c.domain.isEmpty then []else fn.params.toList.map fun t=>match P.underlying t with|some (.int k)=>some k|_=>none))=I) (Jh:(c.pinned == c.pinnedBy)=I)
  (xf:(c.veiled == (fn.params.toList++s.plain.varTypes P++fn.resultTypes.toList).any (P.veiledRec ·))=I) (h32:c.veiledFits P fn.params.toList (fn.params.toList++s.plain.varTypes P++fn.resultTypes.toList)=I):joinedFacts P f fn s c=I:=by
 simp only[joinedFacts,En]
 exact⟨⟨⟨⟨⟨⟨⟨⟨⟨⟨⟨⟨⟨⟨⟨⟨⟨⟨⟨⟨⟨⟨⟨⟨⟨⟨⟨⟨⟨⟨⟨h1,h2⟩,h3⟩,h4⟩,h5⟩,h6⟩,h7⟩,h8⟩,h9⟩,lZ⟩,oz⟩,l3⟩,vK⟩,oW⟩,vL⟩,nB⟩,Gu⟩,Jg⟩,Gv⟩,A4⟩,Sc⟩,Gx⟩,Gw⟩,Gy⟩,Sd⟩,XO⟩,h27⟩,XP⟩,h29⟩,Jh⟩,xf⟩,h32⟩
end Go.Proofs.YtimdocpnkimlfaaGreatDoor
namespace Go.Proofs.YtimdocpnkimlfaaGreatDoor
open Go Go.Abs Go.Z Go.RowKit
theorem joo:mapsRowed Tryz.prog=I:=by kernel_rfl
theorem jpi:(Tryz.prog.stops == [])=I:=by kernel_rfl
theorem jov:(Tryz.prog.stopKnobs == [])=I:=by kernel_rfl
theorem jnp:(Rows.worksTurnsRow.plainKeys == Tryz.prog.plainKeys)=I:=by kernel_rfl
theorem jpn:Tryz.prog.stopsHeard=I:=by kernel_rfl
theorem joy:Tryz.prog.mayEnter=I:=by kernel_rfl
theorem jnq:(Rows.worksTurnsRow.lifted == Tryz.prog.liftsFinal)=I:=by kernel_rfl
theorem juf:(Tryz.prog.make == some Rows.worksTurnsRow.make)=I:=by kernel_rfl
theorem jtj : Tryz.prog.mainIs = some (I, "1bd47a6b7e681e5c8bd85b252bc129e10370a18833b6d87933be64800e006a4c".toList) := by kernel_rfl
theorem jns:false=Tryz.prog.looks []:=by kernel_rfl
end Go.Proofs.YtimdocpnkimlfaaGreatDoor
