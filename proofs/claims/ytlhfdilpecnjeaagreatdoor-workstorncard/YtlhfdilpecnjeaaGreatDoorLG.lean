/- What plain data comes in; the library's variables out of a row's condition. -/
import Derived.Test.YtlhfdilpecnjeaaGreatDoorAZ
import Derived.Test.YtlhfdilpecnjeaaGreatDoorAbsO
import Derived.Test.YtlhfdilpecnjeaaGreatDoorTie
import Derived.Test.YtlhfdilpecnjeaaGreatDoorCards
set_option linter.unusedVariables false
set_option linter.unusedSimpArgs false
set_option maxRecDepth 100000
open Bool renaming true->En,and_eq_true->E6
namespace Go.Z
open Go Go.Abs Go.Proofs Go.RowKit
theorem qcg {y:AVal}(h:y.isAgg=false):y.flat=[y]:=by
 cases y<;>first|rfl|cases h
theorem q9o {y:AVal}(h:y.isAgg=En):y=.agg y.flat:=by
 cases y<;>first|rfl|cases h
theorem j8c:ownKnob Tryz.prog.godebug=none:=by kernel_rfl
theorem jhr:laidOutB Tryz.prog=En:=by kernel_rfl
theorem jsn {laid}(hm:(pI,Lib.tabData .u64 Lib.pow10Tab)∈laid){W}(hsh:W.ShapedOpen Tryz.prog)(h:laidMet Tryz.prog laid W):Tabs Tryz.prog W:=
 jut (jo3 (gt:=1) (t:=323) (e:=303) (n:=20) (by kernel_rfl) (by kernel_rfl) (by kernel_rfl) (by kernel_rfl) (by kernel_rfl) (by kernel_rfl) hm h)
  (jos (gl:=0) (tl:=3) (zero:=#[.int .i64 0]) (by kernel_rfl) (of_decide_eq_true (by kernel_rfl)) (by kernel_rfl) rfl (by kernel_rfl) (by kernel_rfl) (by kernel_rfl) hsh)
  (fun x M=>by
   simp only[Hz,List.mem_cons,List.not_mem_nil,or_false]at M;rcases M with rfl|rfl|rfl
   ·exact VF (by kernel_rfl)
   ·exact VF (by kernel_rfl)
   ·exact VF (by kernel_rfl))
theorem q0w {x:Int}(h:(Lit.int .u16 x).wf=En):0<=x/\x<=65535:=by
 simp only[Lit.wf,E6,decide_eq_true_eq]at h
 have e1:IntKind.min .u16=0:=by decide
 have e2:IntKind.max .u16=65535:=by decide
 omega
end Go.Z
namespace Go.Proofs.YtlhfdilpecnjeaaGreatDoor
open Go Go.Abs Go.Z Go.RowKit
theorem jj0 {P:Program}{f:FuncId}{fn:Func}{s:ChangeSpec}{c:OpenClaim}(Y:c.wf (OpenSpec.ofChange s)=En)(I:laidOutB P=En)(h3:mapsRowed P=En)
  (h4:fn.params.all (P.readableRec ·)=En) (h5:namedTie P c.named s.vars=En)
  (h6:(c.stops == [])=En) (h7:(P.stops == [])=En) (h8:(c.knobs == [])=En) (h9:(P.stopKnobs == [])=En)
  (et:(c.inPlace == P.inPlace f)=En) (fK:(c.unfollowed == P.unfollowed f)=En) (kG:(c.recurses == P.recurses f)=En) (gv:(c.named == P.varsNamed f)=En)
  (jS:(c.maps == (fn.params.toList++s.plain.varTypes P).any (P.mapsRec ·))=En) (rN:(c.ifaces == (fn.params.toList++s.plain.varTypes P).any (P.ifacesRec ·))=En) (kF:(c.mapsOut == P.mapsAmong fn.resultTypes.toList)=En)
  (pR:(c.loops == (fn.params.toList++s.plain.varTypes P).any (P.loopsFrom ·))=En) (Kx:(c.wideKeys == (fn.params.toList++s.plain.varTypes P++fn.resultTypes.toList).any (P.wideKeysFrom ·))=En)
  (yG:s.vars.all (P.varReadable ·)=En) (s7:fn.resultTypes.all (fun t=>P.readableRec t&&decide (t<P.types.size))=En) (pe:(c.ifacesOut == fn.resultTypes.toList.any (P.ifacesRec ·))=En) (nz:(c.loopsOut == fn.resultTypes.toList.any (P.loopsFrom ·))=En)
  (pf:(c.plainKeys == P.plainKeys)=En) (wG:c.shortTexts.isNone=En) (wH:P.stopsHeard=En) (rR:P.mayEnter=En) (ot:(c.lifted == P.liftsFinal)=En) (vJ:(P.make == some c.make)=En)
  (zN:(c.kinds == (if c.domain.isEmpty then []else fn.params.toList.map fun t=>match P.underlying t with|some (.int k)=>some k|_=>none))=En) (Ky:(c.pinned == c.pinnedBy)=En)
  (lV:(c.veiled == (fn.params.toList++s.plain.varTypes P++fn.resultTypes.toList).any (P.veiledRec ·))=En) (Cg:c.veiledFits P fn.params.toList (fn.params.toList++s.plain.varTypes P++fn.resultTypes.toList)=En):joinedFacts P f fn s c=En:=by
 simp only[joinedFacts,E6];exact⟨⟨⟨⟨⟨⟨⟨⟨⟨⟨⟨⟨⟨⟨⟨⟨⟨⟨⟨⟨⟨⟨⟨⟨⟨⟨⟨⟨⟨⟨⟨Y,I⟩,h3⟩,h4⟩,h5⟩,h6⟩,h7⟩,h8⟩,h9⟩,et⟩,fK⟩,kG⟩,gv⟩,jS⟩,rN⟩,kF⟩,pR⟩,Kx⟩,yG⟩,s7⟩,pe⟩,nz⟩,pf⟩,wG⟩,wH⟩,rR⟩,ot⟩,vJ⟩,zN⟩,Ky⟩,lV⟩,Cg⟩
end Go.Proofs.YtlhfdilpecnjeaaGreatDoor
namespace Go.Proofs.YtlhfdilpecnjeaaGreatDoor
open Go Go.Abs Go.Z Go.RowKit
theorem js4:mapsRowed Tryz.prog=En:=by kernel_rfl
theorem jug:(Tryz.prog.stops == [])=En:=by kernel_rfl
theorem jtc:(Tryz.prog.stopKnobs == [])=En:=by kernel_rfl
theorem jro:(Rows.worksTornRow.plainKeys == Tryz.prog.plainKeys)=En:=by kernel_rfl
theorem jsc:Tryz.prog.stopsHeard=En:=by kernel_rfl
theorem jsz:Tryz.prog.mayEnter=En:=by kernel_rfl
theorem jrw:(Rows.worksTornRow.lifted == Tryz.prog.liftsFinal)=En:=by kernel_rfl
theorem j03:(Tryz.prog.make == some Rows.worksTornRow.make)=En:=by kernel_rfl
theorem j2h : Tryz.prog.mainIs = some (En, "6ebe9f5257bc28bbdf1043ac69240590c05c4215ff9701c5d64b0de29936156d".toList) := by kernel_rfl
theorem jve:false=Tryz.prog.looks []:=by kernel_rfl
end Go.Proofs.YtlhfdilpecnjeaaGreatDoor
