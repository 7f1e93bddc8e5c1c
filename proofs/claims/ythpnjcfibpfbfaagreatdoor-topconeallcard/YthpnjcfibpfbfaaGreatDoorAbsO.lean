/- A law's row out of its call in the abstract machine, where the row lists variables of the . -/
import Derived.Test.YthpnjcfibpfbfaaGreatDoorAbsG
import Derived.HandedShaped
import Derived.LaidMore
import Derived.Lay
import Derived.Shelf.Vars
set_option linter.unusedVariables false
set_option linter.unusedSimpArgs false
namespace Go.Abs
open Go.ChangeShapes Go.WideShapes Go.ChangeAt Go.RowKit
section
variable {P:Program}{H:Type}{enc:TypeId×Value→H}{w:World}
theorem qlj:∀ {l:List (String×DataW Unit)} {ps:List MemPlace},DataW.LaidVars P w l ps→∀n d,(n,d)∈l→∃g t cs fuel p,P.globalNamed n=some g∧(P.globals[g]?).map (·.type)=some t∧w.var? P n=some cs∧DataW.trod (fun _=>()) P w 0 (fun _=>true) false fuel t cs.toList=some (d,p)
 | [],_,_,n,d,hm=>by cases hm
 |(m,e)::l,ps,h,n,d,hm=>by
  obtain⟨g,t,cs,fuel,p,q,h1,h2,h3,h4,h5,_⟩:=h
  rcases List.mem_cons.1 hm with hm|hm
  ·cases hm
   exact⟨g,t,cs,fuel,p,h1,h2,h3,h4⟩
  ·exact qlj h5 n d hm
theorem qx3 (hA:∀g,P.globalNamed kh=some g→g<w.heap.size∧Lib.TabIs P w kh .u64 Lib.pow10Tab)(hB:∀g,P.globalNamed qc3=some g→g<w.heap.size∧∃m,w.cell? ⟨g,0,none⟩=some (.int .i64 m))
  (hC:∀x∈qih,∀g,P.globalNamed x.1=some g→g<w.heap.size∧∀j n,x.2[j]?=some n→w.cell? ⟨g,j,none⟩=some (.int .i64 n)):Tabs P w:=by
 intro g hg
 refine⟨?_,fun h=>(hA g h).2,fun h=>(hB g h).2,fun x hx h=>(hC x hx g h).2⟩
 rcases hg with h|h|⟨x,hx,h⟩
 ·exact(hA g h).1
 ·exact(hB g h).1
 ·exact(hC x hx g h).1
theorem qun {n g cs}(hg:P.globalNamed n=some g)(hv:w.var? P n=some cs):g<w.heap.size∧∀j v,cs[j]?=some v→w.cell? ⟨g,j,none⟩=some v:=by
 unfold World.var? at hv
 rw[hg]at hv
 simp only[Option.bind_some]at hv
 split at hv
 ·rename_i c t f hc
  cases hv
  refine⟨(Array.getElem?_eq_some_iff.1 hc).1,fun j v hj=>?_⟩
  simp[World.cell?,hc,hj]
 ·cases hv
theorem qv6 {laid}{gt t e:TypeId}{n}(hgt:P.globalNamed kh=some gt)
  (hty:(P.globals[gt]?).map (·.type)=some t) (ht:P.underlying t=some (.array n e)) (he:P.underlying e=some (.int .u64)) (hce:P.cellsOf e=1) (hct:P.cellsOf t=n)
  (hm:(kh,Lib.tabData .u64 Lib.pow10Tab)∈laid) (hl:laidMet P laid w):∀g,P.globalNamed kh=some g→g<w.heap.size∧Lib.TabIs P w kh .u64 Lib.pow10Tab:=by
 intro g hg
 obtain⟨ps,hv,_⟩:=hl
 obtain⟨g',t',cs,fuel,p,a1,a2,a3,a4⟩:=qlj hv _ _ hm
 obtain rfl:=Option.some.inj (hgt.symm.trans a1)
 obtain rfl:=Option.some.inj (hgt.symm.trans hg)
 obtain rfl:=Option.some.inj (hty.symm.trans a2)
 refine⟨(qun hgt a3).1,?_⟩
 unfold Lib.TabIs
 rw[a3,←Lib.cells_of_tab ht he hce hct a4]
theorem qvf {gl tl:TypeId}{zero}(hgl:P.globalNamed qc3=some gl)
  (hsz:gl<P.globals.size) (hz0:((begin P (fun _ _=>0) default).world.heap[gl]?).bind Obj.row?=some (zero,tl)) (hz1:zero.size=1) (hb:P.buildable tl=true) (hc:P.cellTypes P.depth tl=some [tl]) (hu:P.underlying tl=some (.int .i64))
  (hsh:w.ShapedOpen P):∀g,P.globalNamed qc3=some g→g<w.heap.size∧∃m,w.cell? ⟨g,0,none⟩=some (.int .i64 m):=by
 intro g hg
 obtain rfl:=Option.some.inj (hgl.symm.trans hg)
 obtain⟨m,hmx⟩:=Go.Proofs.cell_of_shapedOpen_int (k:=.i64) hsh hsz hz0 hz1 hb hc hu
 refine⟨?_,m,hmx⟩
 unfold World.cell? at hmx
 rcases Nat.lt_or_ge gl w.heap.size with h|h
 ·exact h
 ·simp only[Array.getElem?_eq_none h]at hmx;simp at hmx
theorem q1y {n:String}{Q:Nat→Prop}(h:P.globalNamed n=none):∀g,P.globalNamed n=some g→Q g:=fun g hg=>by rw[h]at hg;cases hg
theorem qj6 {α:Type}:∀ {l:List α},l.length=2→∃a b,l=[a,b]
 | [a,b],_=>⟨a,b,rfl⟩
 | [],h=>by cases h
 | [_],h=>by cases h
 |_::_::_::_,h=>by simp at h
theorem ql4 {laid n}{gv t ti:TypeId}{fs a b}(hgv:P.globalNamed n=some gv)
  (hty:(P.globals[gv]?).map (·.type)=some t) (ht:P.underlying t=some (.struct fs)) (hfs:fs.toList.map (fun f=>(f.type,f.offset))=[(ti,0),(ti,1)]) (hi:P.underlying ti=some (.int .i64)) (hci:P.cellsOf ti=1) (hct:P.cellsOf t=2)
  (hm:(n,.agg [.lit (.int .i64 a),.lit (.int .i64 b)])∈laid) (hl:laidMet P laid w):∀g,P.globalNamed n=some g→g<w.heap.size∧∀j k,[a,b][j]?=some k→w.cell? ⟨g,j,none⟩=some (.int .i64 k):=by
 intro g hg
 obtain⟨ps,hv,_⟩:=hl
 obtain⟨g',t',cs,fuel,p,a1,a2,a3,a4⟩:=qlj hv _ _ hm
 obtain rfl:=Option.some.inj (hgv.symm.trans a1)
 obtain rfl:=Option.some.inj (hgv.symm.trans hg)
 obtain rfl:=Option.some.inj (hty.symm.trans a2)
 obtain⟨h1,h2⟩:=qun hgv a3
 refine⟨h1,?_⟩
 cases fuel with
 |zero=>simp[DataW.trod]at a4
 |succ fuel=>
  simp only[DataW.trod,ht]at a4
  split at a4
  ·rename_i hl
   rw[hct]at hl
   obtain⟨f1,f2,hfl⟩:∃f1 f2,fs.toList=[f1,f2]:=qj6 (by have h:=congrArg List.length hfs;simpa using h)
   obtain⟨c1,c2,hcs⟩:∃c1 c2,cs.toList=[c1,c2]:=qj6 hl
   rw[hfl]at hfs
   simp only[List.map_cons,List.map_nil,List.cons.injEq,Prod.mk.injEq,and_true]at hfs
   obtain⟨⟨e1,e2⟩,e3,e4⟩:=hfs
   simp only[hfl,hcs,List.mapM_cons,List.mapM_nil,e1,e2,e3,e4,hci,List.drop_zero,List.take,List.drop,Option.bind_eq_bind,Option.pure_def]at a4
   obtain⟨xs,hx,hy⟩:=Option.map_eq_some_iff.1 a4
   obtain⟨y1,k1,hx⟩:=Option.bind_eq_some_iff.1 hx
   obtain⟨ys,k2,hx⟩:=Option.bind_eq_some_iff.1 hx
   obtain⟨y2,k3,k2⟩:=Option.bind_eq_some_iff.1 k2
   cases hx
   simp only[Option.bind_some,Option.some.injEq]at k2
   subst k2
   simp only[List.map_cons,List.map_nil,Prod.mk.injEq,DataW.agg.injEq,List.cons.injEq,and_true]at hy
   obtain⟨⟨hy1,hy2⟩,_⟩:=hy
   obtain⟨y1,p1⟩:=y1
   obtain⟨y2,p2⟩:=y2
   simp only at hy1 hy2
   subst hy1
   subst hy2
   obtain⟨z1,g1,g2,_⟩:=DataW.trod_int hi k1
   obtain⟨z2,g3,g4,_⟩:=DataW.trod_int hi k3
   cases g2
   cases g4
   intro j k hj
   refine h2 j _ ?_
   have hcs':cs=#[.int .i64 a,.int .i64 b]:=by
    apply Array.ext'
    rw[hcs,(List.cons.inj g1).1,(List.cons.inj g3).1]
   rw[hcs']
   match j,hj with
   |0,hj=>simp at hj;subst hj;rfl
   |1,hj=>simp at hj;subst hj;rfl
  ·cases a4
theorem qk1 {C os f fn s conds laid}(n:Nat)(tb:TypeId)
  (hX:∀(w w':World),w.heap=w'.heap→laidMetH C.prog laid w→laidMetH C.prog laid w')
  (own:ownKnob C.prog.godebug=none) (started:os.Started) (noInit:C.prog.inits.idxOf? f=none) (hfn:C.prog.funcs[f]?=some fn)
  (witness:∃(w:World) (tape:Tape) (i:Input),w.os=os∧(w.forCall tape i).Shaped C.prog∧i.vars=[]∧Input.okWide C.prog (w.forCall tape i) .any w.heap.size f i ∧
   ((s.pre enc C.prog fn conds false (w.forCall tape i).memory i.args∧laidMetH C.prog laid (w.forCall tape i).memory)∧sizedMet enc C.prog fn (OpenSpec.ofChange s) false (w.forCall tape i).memory i.args)∧Assume.holds {} C.prog (lone (Frame.enter C.prog f i.args .normal) [] (w.forCall tape i)))
  (hvars:s.vars=[]) (hres:fn.resultTypes=#[tb]) (htb:C.prog.underlying tb=some .bool) (hlaid:laidOutB C.prog=true) (hpl:fn.params.toList.all (qbe C.prog n)=true)
  (hread:fn.params.toList.all (fun t=>C.prog.readableRec t&&decide (t<C.prog.types.size))=true)
  (hspec:∀ds:List (DataW H),ds.length=fn.params.size→(s.fn H ds).results=[.lit (.bool true)]∧(s.fn H ds).args=ds∧(s.fn H ds).vars=[])
  (law:∀xs,qg1 C.prog n fn.params.toList xs→IsoCall C.prog f xs (.bool true) false) (htabs:∀W:World,W.ShapedOpen C.prog→laidMetH C.prog laid W→Tabs C.prog W):
  ReturnsInHanded {} C os f .any (fun w args=>(s.pre enc C.prog fn conds false w args∧laidMetH C.prog laid w)∧sizedMet enc C.prog fn (OpenSpec.ofChange s) false w args) (s.post enc C.prog fn false true false false):=by
 refine returnsInHanded_of_calls own started noInit witness ?_
 intro w tape i _ hsh _ hok hpre hholds
 obtain⟨_,_,_,fn',hfn',_,_,_,_,hval⟩:=hok
 obtain rfl:fn'=fn:=Option.some.inj (hfn'.symm.trans hfn)
 obtain⟨⟨⟨ds,gs,before,hw,hc⟩,hx⟩,hz⟩:=hpre
 have hW:=DataW.Whole.of_heap (w':=w.forCall tape i) (by rfl) hw
 have hL:laidMetH C.prog laid (w.forCall tape i):=hX _ _ (by rfl) hx
 have ht:=htabs _ hsh hL
 suffices h:Calls C.prog f i.args (w.forCall tape i) fun e W'=>∃v,e=.returned v∧s.post enc C.prog fn' false true false false (w.forCall tape i) i.args v W' by
  refine h.mono fun e W' ⟨v,he,hp⟩=>?_
  subst he
  exact ChangeSpec.post_blind hp
 have hW':=hW
 obtain⟨p,q,hA,hV,rfl,hfz,hnd⟩:=hW
 rw[hvars]at hV
 obtain⟨rfl,rfl⟩:=trodVars_none hV
 obtain⟨hdl,xs,hxs,hty⟩:=qq3 hpl (fun j t v ht hv=>⟨w.heap.size,hval j t v (by simpa using ht) (by simpa using hv)⟩) hA
 have hcall:=law xs hty (Kw (w.forCall tape i)) (w.forCall tape i) i.args.toList ht (fun r o u h=>(qqu h).1) (fun r o u h=>(qqu h).2) hxs
 refine(callsIn_wide.1 hcall).mono fun e W' he=>?_
 obtain⟨u,K',rfl,hext,_,_,_,_,hrep,_⟩:=he
 have hu:u=.bool true:=hrep.bool_inv
 subst hu
 obtain⟨s1,s2,s3⟩:=hspec ds (by simpa using hdl)
 refine⟨_,rfl,ds,[],p++[],[],p,[],by simpa using hW',?_,?_,?_,hext.frame _,fun h=>by cases h⟩
 ·rw[List.append_nil,s1,hres]
  exact trodAll_mk1 (shut_bool htb _)
 ·rw[List.append_nil,s2]
  exact qnt hext hlaid hread hA
 ·rw[List.append_nil,s3,hvars]
  rfl
end
end Go.Abs
