/-
  A law's row out of its call in the abstract machine, where the row lists variables of the library with what they hold.
-/
import Derived.Test.YtlonjmhacojkjaaGreatDoorAbsH
import Derived.Handed
import Derived.HandedShaped
import Derived.LaidMore
import Derived.Lay
import Derived.Lib.LaidTab
import Derived.Shelf.Vars
set_option linter.unusedVariables false
set_option linter.unusedSimpArgs false
namespace Go.Abs
open Go.ChangeShapes Go.WideShapes Go.ChangeAt Go.RowKit
section
variable {P:Program} {H:Type} {enc:TypeId × Value→H} {w:World}
theorem laid_at:∀ {l:List (String × DataW Unit)} {ps:List MemPlace},DataW.LaidVars P w l ps→∀ n d,(n,d)∈l→∃ g t cs fuel p,P.globalNamed n=some g∧(P.globals[g]?).map (·.type)=some t∧w.var? P n=some cs∧DataW.trod (fun _=>()) P w 0 (fun _=>true) false fuel t cs.toList=some (d,p)
 | [],_,_,n,d,hm=>by cases hm
 | (m,e)::l,ps,h,n,d,hm=>by
  obtain ⟨g,t,cs,fuel,p,q,h1,h2,h3,h4,h5,_⟩:=h
  rcases List.mem_cons.1 hm with hm | hm
  ·cases hm
   exact ⟨g,t,cs,fuel,p,h1,h2,h3,h4⟩
  ·exact laid_at h5 n d hm
theorem tabs_laid {laid:List (String × DataW Unit)} {gt gl t e tl:TypeId} {n:Nat} {zero:Array Value} (hgt:P.globalNamed tabName=some gt) (hgl:P.globalNamed lenName=some gl)
  (hty:(P.globals[gt]?).map (·.type)=some t) (ht:P.underlying t=some (.array n e)) (he:P.underlying e=some (.int .u64)) (hce:P.cellsOf e=1) (hct:P.cellsOf t=n)
  (hsz:gl < P.globals.size) (hz0:((begin P (fun _ _=>0) default).world.heap[gl]?).bind Obj.row?=some (zero,tl)) (hz1:zero.size=1) (hb:P.buildable tl=true) (hc:P.cellTypes P.depth tl=some [tl]) (hu:P.underlying tl=some (.int .i64))
  (hm:(tabName,Lib.tabData .u64 Lib.pow10Tab)∈laid) (hsh:w.ShapedOpen P) (hl:laidMet P laid w):Tabs P w:=by
 obtain ⟨m,hmx⟩:=Go.Proofs.cell_of_shapedOpen_int (k:=.i64) hsh hsz hz0 hz1 hb hc hu
 obtain ⟨ps,hv,_⟩:=hl
 obtain ⟨g',t',cs,fuel,p,a1,a2,a3,a4⟩:=laid_at hv _ _ hm
 obtain rfl:=Option.some.inj (hgt.symm.trans a1)
 obtain rfl:=Option.some.inj (hty.symm.trans a2)
 have hT:Lib.TabIs P w tabName .u64 Lib.pow10Tab:=by
  unfold Lib.TabIs
  rw [a3,← Lib.cells_of_tab ht he hce hct a4]
 intro g hg
 rcases hg with hg | hg
 ·obtain rfl:=Option.some.inj (hgt.symm.trans hg)
  refine ⟨?_,fun _=>hT,fun h2=>?_⟩
  ·unfold World.var? at a3
   rw [hgt] at a3
   simp only [Option.bind_some] at a3
   rcases Nat.lt_or_ge gt w.heap.size with h | h
   ·exact h
   ·rw [Array.getElem?_eq_none h] at a3; simp at a3
  ·obtain rfl:=Option.some.inj (hgl.symm.trans h2)
   exact ⟨m,hmx⟩
 ·obtain rfl:=Option.some.inj (hgl.symm.trans hg)
  refine ⟨?_,fun h2=>hT,fun _=>⟨m,hmx⟩⟩
  unfold World.cell? at hmx
  rcases Nat.lt_or_ge gl w.heap.size with h | h
  ·exact h
  ·simp only [Array.getElem?_eq_none h] at hmx; simp at hmx
theorem law_lifted_laid {C:Checked} {os:Os} {f:FuncId} {fn:Func} {s:ChangeSpec} {conds:List PathCond} {laid:List (String × DataW Unit)} (n:Nat) (tb:TypeId)
  (hX:∀ (w w':World),w.heap=w'.heap→laidMetH C.prog laid w→laidMetH C.prog laid w')
  (own:ownKnob C.prog.godebug=none) (started:os.Started) (noInit:C.prog.inits.idxOf? f=none) (hfn:C.prog.funcs[f]?=some fn)
  (witness:∃ (w:World) (tape:Tape) (i:Input),w.os=os∧(w.forCall tape i).Shaped C.prog∧i.vars=[]∧Input.okWide C.prog (w.forCall tape i) .any w.heap.size f i ∧
   ((s.pre enc C.prog fn conds false (w.forCall tape i).memory i.args∧laidMetH C.prog laid (w.forCall tape i).memory)∧sizedMet enc C.prog fn (OpenSpec.ofChange s) false (w.forCall tape i).memory i.args)∧Assume.holds {} C.prog (lone (Frame.enter C.prog f i.args .normal) [] (w.forCall tape i)))
  (hvars:s.vars=[]) (hres:fn.resultTypes=#[tb]) (htb:C.prog.underlying tb=some .bool) (hlaid:laidOutB C.prog=true) (hpl:fn.params.toList.all (plainT C.prog n)=true)
  (hread:fn.params.toList.all (fun t=>C.prog.readableRec t && decide (t < C.prog.types.size))=true)
  (hspec:∀ ds:List (DataW H),ds.length=fn.params.size→(s.fn H ds).results=[.lit (.bool true)]∧(s.fn H ds).args=ds∧(s.fn H ds).vars=[])
  (law:∀ xs,typedAll C.prog n fn.params.toList xs→IsoCall C.prog f xs (.bool true) false) (htabs:∀ W:World,W.ShapedOpen C.prog→laidMetH C.prog laid W→Tabs C.prog W):
  ReturnsInHanded {} C os f .any (fun w args=>(s.pre enc C.prog fn conds false w args∧laidMetH C.prog laid w)∧sizedMet enc C.prog fn (OpenSpec.ofChange s) false w args) (s.post enc C.prog fn false true false false):=by
 refine returnsInHanded_of_calls own started noInit witness ?_
 intro w tape i _ hsh _ hok hpre hholds
 obtain ⟨_,_,_,fn',hfn',_,_,_,_,hval⟩:=hok
 obtain rfl:fn'=fn:=Option.some.inj (hfn'.symm.trans hfn)
 obtain ⟨⟨⟨ds,gs,before,hw,hc⟩,hx⟩,hz⟩:=hpre
 have hW:=DataW.Whole.of_heap (w':=w.forCall tape i) (by rfl) hw
 have hL:laidMetH C.prog laid (w.forCall tape i):=hX _ _ (by rfl) hx
 have ht:=htabs _ hsh hL
 suffices h:Calls C.prog f i.args (w.forCall tape i) fun e W'=>∃ v,e=.returned v∧s.post enc C.prog fn' false true false false (w.forCall tape i) i.args v W' by
  refine h.mono fun e W' ⟨v,he,hp⟩=>?_
  subst he
  exact ChangeSpec.post_blind hp
 have hW':=hW
 obtain ⟨p,q,hA,hV,rfl,hfz,hnd⟩:=hW
 rw [hvars] at hV
 obtain ⟨rfl,rfl⟩:=trodVars_none hV
 obtain ⟨hdl,xs,hxs,hty⟩:=readAll hpl (fun j t v ht hv=>⟨w.heap.size,hval j t v (by simpa using ht) (by simpa using hv)⟩) hA
 have hcall:=law xs hty (Kw (w.forCall tape i)) (w.forCall tape i) i.args.toList ht (fun r o u h=>(Kw_cell h).1) (fun r o u h=>(Kw_cell h).2) hxs
 refine (callsIn_wide.1 hcall).mono fun e W' he=>?_
 obtain ⟨u,K',rfl,hext,_,_,_,_,hrep,_⟩:=he
 have hu:u=.bool true:=hrep.bool_inv
 subst hu
 obtain ⟨s1,s2,s3⟩:=hspec ds (by simpa using hdl)
 refine ⟨_,rfl,ds,[],p++[],[],p,[],by simpa using hW',?_,?_,?_,hext.frame _,fun h=>by cases h⟩
 ·rw [List.append_nil,s1,hres]
  exact trodAll_mk1 (shut_bool htb _)
 ·rw [List.append_nil,s2]
  exact staysAll hext hlaid hread hA
 ·rw [List.append_nil,s3,hvars]
  rfl
end
end Go.Abs
