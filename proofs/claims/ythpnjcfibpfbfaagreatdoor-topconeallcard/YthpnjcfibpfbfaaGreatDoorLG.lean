/- What plain data comes in; the library's and the program's variables out of a row's conditi. -/
import Derived.Test.YthpnjcfibpfbfaaGreatDoorAZ
import Derived.Test.YthpnjcfibpfbfaaGreatDoorAbsO
import Derived.Test.YthpnjcfibpfbfaaGreatDoorTie
import Derived.Test.YthpnjcfibpfbfaaGreatDoorCards
set_option linter.unusedVariables false
set_option linter.unusedSimpArgs false
set_option maxRecDepth 100000
namespace Go.Z
open Go Go.Abs Go.Proofs Go.RowKit
theorem kj {y:AVal}(h:y.isAgg=false):y.flat=[y]:=by
 cases y<;>first|rfl|cases h
theorem q6x:ownKnob Tryz.prog.godebug=none:=by kernel_rfl
theorem qt1:laidOutB Tryz.prog=true:=by kernel_rfl
theorem qx5 {laid : List (String × DataW Unit)} (hm : (kh, Lib.tabData .u64 Lib.pow10Tab) ∈ laid) (hn : ("woofer/network.none", DataW.agg [.lit (.int .i64 0), .lit (.int .i64 0)]) ∈ laid) (ho : ("woofer/network.one", DataW.agg [.lit (.int .i64 1), .lit (.int .i64 0)]) ∈ laid)
  {W:World} (hsh:W.ShapedOpen Tryz.prog) (h:laidMet Tryz.prog laid W):Tabs Tryz.prog W:=
 qx3 (qv6 (gt:=3) (t:=243) (e:=179) (n:=20) (by kernel_rfl) (by kernel_rfl) (by kernel_rfl) (by kernel_rfl) (by kernel_rfl) (by kernel_rfl) hm h)
  (qvf (gl:=2) (tl:=3) (zero:=#[.int .i64 0]) (by kernel_rfl) (of_decide_eq_true (by kernel_rfl)) (by kernel_rfl) rfl (by kernel_rfl) (by kernel_rfl) (by kernel_rfl) hsh)
  (fun x hx=>by
   simp only[qih,List.mem_cons,List.not_mem_nil,or_false]at hx
   rcases hx with rfl|rfl|rfl
   ·exact ql4 (gv:=0) (t:=67) (ti:=3) (by kernel_rfl) (by kernel_rfl) Tryz.underlying67 (by kernel_rfl) (by kernel_rfl) (by kernel_rfl) (by kernel_rfl) hn h
   ·exact ql4 (gv:=1) (t:=67) (ti:=3) (by kernel_rfl) (by kernel_rfl) Tryz.underlying67 (by kernel_rfl) (by kernel_rfl) (by kernel_rfl) (by kernel_rfl) ho h
   ·exact q1y (by kernel_rfl))
theorem qr7 {x:Int}(h:(Lit.int .u8 x).wf=true):0≤x∧x≤255:=by
 simp only[Lit.wf,Bool.and_eq_true,decide_eq_true_eq]at h
 have e1:IntKind.min .u8=0:=by decide
 have e2:IntKind.max .u8=255:=by decide
 omega
end Go.Z
namespace Go.Proofs.YthpnjcfibpfbfaaGreatDoor
open Go Go.Abs Go.Z Go.RowKit
theorem qtc {P:Program}{f:FuncId}{fn:Func}{s:ChangeSpec}{c:OpenClaim}(h1:c.wf (OpenSpec.ofChange s)=true)(h2:laidOutB P=true)(h3:mapsRowed P=true)
  (h4:fn.params.all (P.readableRec ·)=true) (h5:namedTie P c.named s.vars=true)
  (h6:(c.stops == [])=true) (h7:(P.stops == [])=true) (h8:(c.knobs == [])=true) (h9:(P.stopKnobs == [])=true)
  (h10:(c.inPlace == P.inPlace f)=true) (h11:(c.unfollowed == P.unfollowed f)=true) (h12:(c.recurses == P.recurses f)=true) (h13:(c.named == P.varsNamed f)=true)
  (h14:(c.maps == (fn.params.toList++s.plain.varTypes P).any (P.mapsRec ·))=true) (h15:(c.ifaces == (fn.params.toList++s.plain.varTypes P).any (P.ifacesRec ·))=true) (h16:(c.mapsOut == P.mapsAmong fn.resultTypes.toList)=true)
  (h17:(c.loops == (fn.params.toList++s.plain.varTypes P).any (P.loopsFrom ·))=true) (h18:(c.wideKeys == (fn.params.toList++s.plain.varTypes P++fn.resultTypes.toList).any (P.wideKeysFrom ·))=true)
  (h19:s.vars.all (P.varReadable ·)=true) (h20:fn.resultTypes.all (fun t=>P.readableRec t&&decide (t<P.types.size))=true) (h21:(c.ifacesOut == fn.resultTypes.toList.any (P.ifacesRec ·))=true) (h22:(c.loopsOut == fn.resultTypes.toList.any (P.loopsFrom ·))=true)
  (h23:(c.plainKeys == P.plainKeys)=true) (h24:c.shortTexts.isNone=true) (h25:P.stopsHeard=true) (h26:P.mayEnter=true) (h27:(c.lifted == P.liftsFinal)=true) (h28:(P.make == some c.make)=true)
  (h29:(c.kinds == (if c.domain.isEmpty then []else fn.params.toList.map fun t=>match P.underlying t with|some (.int k)=>some k|_=>none))=true) (h30:(c.pinned == c.pinnedBy)=true)
  (h31:(c.veiled == (fn.params.toList++s.plain.varTypes P++fn.resultTypes.toList).any (P.veiledRec ·))=true) (h32:c.veiledFits P fn.params.toList (fn.params.toList++s.plain.varTypes P++fn.resultTypes.toList)=true):joinedFacts P f fn s c=true:=by
 simp only[joinedFacts,Bool.and_eq_true]
 exact⟨⟨⟨⟨⟨⟨⟨⟨⟨⟨⟨⟨⟨⟨⟨⟨⟨⟨⟨⟨⟨⟨⟨⟨⟨⟨⟨⟨⟨⟨⟨h1,h2⟩,h3⟩,h4⟩,h5⟩,h6⟩,h7⟩,h8⟩,h9⟩,h10⟩,h11⟩,h12⟩,h13⟩,h14⟩,h15⟩,h16⟩,h17⟩,h18⟩,h19⟩,h20⟩,h21⟩,h22⟩,h23⟩,h24⟩,h25⟩,h26⟩,h27⟩,h28⟩,h29⟩,h30⟩,h31⟩,h32⟩
end Go.Proofs.YthpnjcfibpfbfaaGreatDoor
namespace Go.Proofs.YthpnjcfibpfbfaaGreatDoor
open Go Go.Abs Go.Z Go.RowKit
theorem qx8:mapsRowed Tryz.prog=true:=by kernel_rfl
theorem qxq:(Tryz.prog.stops == [])=true:=by kernel_rfl
theorem qxy:(Tryz.prog.stopKnobs == [])=true:=by kernel_rfl
theorem qx4:(Rows.topConeAllRow.plainKeys == Tryz.prog.plainKeys)=true:=by kernel_rfl
theorem qxr:Tryz.prog.stopsHeard=true:=by kernel_rfl
theorem qyl:Tryz.prog.mayEnter=true:=by kernel_rfl
theorem qyc:(Rows.topConeAllRow.lifted == Tryz.prog.liftsFinal)=true:=by kernel_rfl
theorem q1o:(Tryz.prog.make == some Rows.topConeAllRow.make)=true:=by kernel_rfl
theorem q0l : Tryz.prog.mainIs = some (true, "f2c8580cf2dad7b7ddf975e494f2653d3ebb0c81b81f9da25baac4d43574b4c9".toList) := by kernel_rfl
theorem qyh:false=Tryz.prog.looks []:=by kernel_rfl
end Go.Proofs.YthpnjcfibpfbfaaGreatDoor
