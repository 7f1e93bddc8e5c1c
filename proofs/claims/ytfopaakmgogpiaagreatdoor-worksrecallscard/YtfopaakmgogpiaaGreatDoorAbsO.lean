/- A law's row out of its call in the abstract machine, where the row lists variables of the . -/
import Derived.Test.YtfopaakmgogpiaaGreatDoorAbsH
import Derived.HandedShaped
import Derived.LaidMore
import Derived.Lay
import Derived.Shelf.Vars
set_option linter.unusedVariables false
set_option linter.unusedSimpArgs false
open Option renaming some→I,bind_eq_some_iff→Eh,bind_some→Ev,none→Ga
open Bool renaming false→Ek,true→Ep
open List renaming append_nil→En,cons→Eo,map_cons→Gb,map_nil→Gc
namespace Go.Abs
open Go.ChangeShapes Go.WideShapes Go.ChangeAt Go.RowKit
section
variable {P:Program}{H:Type}{enc:TypeId×Value→H}{w:World}
theorem Wq:∀ {l:List (String×DataW Unit)} {ps:List MemPlace},DataW.LaidVars P w l ps→∀n d,(n,d)∈l→∃g t cs fuel p,P.globalNamed n=I g∧(P.globals[g]?).map (·.type)=I t∧w.var? P n=I cs∧DataW.trod (fun _=>()) P w 0 (fun _=>Ep) Ek fuel t cs.toList=I (d,p)
 | [],_,_,n,d,hm=>by cases hm
 |(m,e)::l,ps,h,n,d,hm=>by
  obtain⟨g,t,cs,fuel,p,q,h1,h2,h3,h4,h5,_⟩:=h
  rcases List.mem_cons.1 hm with hm|hm
  ·cases hm
   exact⟨g,t,cs,fuel,p,h1,h2,h3,h4⟩
  ·exact Wq h5 n d hm
theorem jn0 (hA:∀g,P.globalNamed nM=I g→g<w.heap.size∧Lib.TabIs P w nM .u64 Lib.pow10Tab)(hB:∀g,P.globalNamed xy=I g→g<w.heap.size∧∃m,w.cell? ⟨g,0,Ga⟩=I (.int .i64 m))
  (hC:∀x∈Ef,∀g,P.globalNamed x.1=I g→g<w.heap.size∧∀j n,x.2[j]?=I n→w.cell? ⟨g,j,Ga⟩=I (.int .i64 n)):Tabs P w:=by
 intro g hg
 refine⟨?_,fun h=>(hA g h).2,fun h=>(hB g h).2,fun x hx h=>(hC x hx g h).2⟩
 rcases hg with h|h|⟨x,hx,h⟩
 ·exact(hA g h).1
 ·exact(hB g h).1
 ·exact(hC x hx g h).1
theorem jdg {n g cs}(hg:P.globalNamed n=I g)(hv:w.var? P n=I cs):g<w.heap.size∧∀j v,cs[j]?=I v→w.cell? ⟨g,j,Ga⟩=I v:=by
 unfold World.var? at hv
 rw[hg]at hv
 simp only[Ev]at hv
 split at hv
 ·rename_i c t f hc
  cases hv
  refine⟨(Array.getElem?_eq_some_iff.1 hc).1,fun j v hj=>?_⟩
  simp[World.cell?,hc,hj]
 ·cases hv
theorem jjd {laid}{gt t e:TypeId}{n}(pA:P.globalNamed nM=I gt)
  (kB:(P.globals[gt]?).map (·.type)=I t) (ht:P.underlying t=I (.array n e)) (he:P.underlying e=I (.int .u64)) (hce:P.cellsOf e=1) (dY:P.cellsOf t=n)
  (hm:(nM,Lib.tabData .u64 Lib.pow10Tab)∈laid) (hl:laidMet P laid w):∀g,P.globalNamed nM=I g→g<w.heap.size∧Lib.TabIs P w nM .u64 Lib.pow10Tab:=by
 intro g hg
 obtain⟨ps,hv,_⟩:=hl
 obtain⟨g',t',cs,fuel,p,a1,a2,a3,a4⟩:=Wq hv _ _ hm
 obtain rfl:=I.inj (pA.symm.trans a1)
 obtain rfl:=I.inj (pA.symm.trans hg)
 obtain rfl:=I.inj (kB.symm.trans a2)
 refine⟨(jdg pA a3).1,?_⟩
 unfold Lib.TabIs
 rw[a3,←Lib.cells_of_tab ht he hce dY a4]
theorem jh5 {gl tl:TypeId}{zero}(AH:P.globalNamed xy=I gl)
  (cB:gl<P.globals.size) (pC:((begin P (fun _ _=>0) default).world.heap[gl]?).bind Obj.row?=I (zero,tl)) (lz:zero.size=1) (hb:P.buildable tl=Ep) (hc:P.cellTypes P.depth tl=I [tl]) (hu:P.underlying tl=I (.int .i64))
  (hsh:w.ShapedOpen P):∀g,P.globalNamed xy=I g→g<w.heap.size∧∃m,w.cell? ⟨g,0,Ga⟩=I (.int .i64 m):=by
 intro g hg
 obtain rfl:=I.inj (AH.symm.trans hg)
 obtain⟨m,l9⟩:=Go.Proofs.cell_of_shapedOpen_int (k:=.i64) hsh cB pC lz hb hc hu
 refine⟨?_,m,l9⟩
 unfold World.cell? at l9
 rcases Nat.lt_or_ge gl w.heap.size with h|h
 ·exact h
 ·simp only[Array.getElem?_eq_none h]at l9;simp at l9
theorem Wr {n:String}{Q:Nat→Prop}(h:P.globalNamed n=Ga):∀g,P.globalNamed n=I g→Q g:=fun g hg=>by rw[h]at hg;cases hg
theorem qyz {α:Type}:∀ {l:List α},l.length=2→∃a b,l=[a,b]
 | [a,b],_=>⟨a,b,rfl⟩
 | [],h=>by cases h
 | [_],h=>by cases h
 |_::_::_::_,h=>by simp at h
theorem j8m {laid n}{gv t ti:TypeId}{fs a b}(Ws:P.globalNamed n=I gv)
  (kB:(P.globals[gv]?).map (·.type)=I t) (ht:P.underlying t=I (.struct fs)) (OS:fs.toList.map (fun f=>(f.type,f.offset))=[(ti,0),(ti,1)]) (hi:P.underlying ti=I (.int .i64)) (rh:P.cellsOf ti=1) (dY:P.cellsOf t=2)
  (hm:(n,.agg [.lit (.int .i64 a),.lit (.int .i64 b)])∈laid) (hl:laidMet P laid w):∀g,P.globalNamed n=I g→g<w.heap.size∧∀j k,[a,b][j]?=I k→w.cell? ⟨g,j,Ga⟩=I (.int .i64 k):=by
 intro g hg
 obtain⟨ps,hv,_⟩:=hl
 obtain⟨g',t',cs,fuel,p,a1,a2,a3,a4⟩:=Wq hv _ _ hm
 obtain rfl:=I.inj (Ws.symm.trans a1)
 obtain rfl:=I.inj (Ws.symm.trans hg)
 obtain rfl:=I.inj (kB.symm.trans a2)
 obtain⟨h1,h2⟩:=jdg Ws a3
 refine⟨h1,?_⟩
 cases fuel with
 |zero=>simp[DataW.trod]at a4
 |succ fuel=>
  simp only[DataW.trod,ht]at a4
  split at a4
  ·rename_i hl
   rw[dY]at hl
   obtain⟨f1,f2,vV⟩:∃f1 f2,fs.toList=[f1,f2]:=qyz (by have h:=congrArg List.length OS;simpa using h)
   obtain⟨c1,c2,hcs⟩:∃c1 c2,cs.toList=[c1,c2]:=qyz hl
   rw[vV]at OS
   simp only[Gb,Gc,Eo.injEq,Prod.mk.injEq,and_true]at OS
   obtain⟨⟨e1,e2⟩,e3,e4⟩:=OS
   simp only[vV,hcs,List.mapM_cons,List.mapM_nil,e1,e2,e3,e4,rh,List.drop_zero,List.take,List.drop,Option.bind_eq_bind,Option.pure_def]at a4
   obtain⟨xs,hx,hy⟩:=Option.map_eq_some_iff.1 a4
   obtain⟨y1,k1,hx⟩:=Eh.1 hx
   obtain⟨ys,k2,hx⟩:=Eh.1 hx
   obtain⟨y2,k3,k2⟩:=Eh.1 k2
   cases hx
   simp only[Ev,I.injEq]at k2
   subst k2
   simp only[Gb,Gc,Prod.mk.injEq,DataW.agg.injEq,Eo.injEq,and_true]at hy
   obtain⟨⟨NJ,hy2⟩,_⟩:=hy
   obtain⟨y1,p1⟩:=y1
   obtain⟨y2,p2⟩:=y2
   simp only at NJ hy2
   subst NJ
   subst hy2
   obtain⟨z1,g1,g2,_⟩:=DataW.trod_int hi k1
   obtain⟨z2,g3,g4,_⟩:=DataW.trod_int hi k3
   cases g2
   cases g4
   intro j k hj
   refine h2 j _ ?_
   have Wt:cs=#[.int .i64 a,.int .i64 b]:=by
    apply Array.ext'
    rw[hcs,(Eo.inj g1).1,(Eo.inj g3).1]
   rw[Wt]
   match j,hj with
   |0,hj=>simp at hj;subst hj;rfl
   |1,hj=>simp at hj;subst hj;rfl
  ·cases a4
theorem qyr {C os f fn s conds laid}(n:Nat)(tb:TypeId)
  (hX:∀(w w':World),w.heap=w'.heap→laidMetH C.prog laid w→laidMetH C.prog laid w')
  (own:ownKnob C.prog.godebug=Ga) (started:os.Started) (A6:C.prog.inits.idxOf? f=Ga) (hfn:C.prog.funcs[f]?=I fn)
  (witness:∃(w:World) (tape:Tape) (i:Input),w.os=os∧(w.forCall tape i).Shaped C.prog∧i.vars=[]∧Input.okWide C.prog (w.forCall tape i) .any w.heap.size f i ∧
   ((s.pre enc C.prog fn conds Ek (w.forCall tape i).memory i.args∧laidMetH C.prog laid (w.forCall tape i).memory)∧sizedMet enc C.prog fn (OpenSpec.ofChange s) Ek (w.forCall tape i).memory i.args)∧Assume.holds {} C.prog (lone (Frame.enter C.prog f i.args .normal) [] (w.forCall tape i)))
  (xX:s.vars=[]) (dU:fn.resultTypes=#[tb]) (htb:C.prog.underlying tb=I .bool) (HT:laidOutB C.prog=Ep) (Ge:fn.params.toList.all (rC C.prog n)=Ep)
  (HU:fn.params.toList.all (fun t=>C.prog.readableRec t&&decide (t<C.prog.types.size))=Ep)
  (HW:∀ds:List (DataW H),ds.length=fn.params.size→(s.fn H ds).results=[.lit (.bool Ep)]∧(s.fn H ds).args=ds∧(s.fn H ds).vars=[])
  (law:∀xs,qpz C.prog n fn.params.toList xs→IsoCall C.prog f xs (.bool Ep) Ek) (HX:∀W:World,W.ShapedOpen C.prog→laidMetH C.prog laid W→Tabs C.prog W):
  ReturnsInHanded {} C os f .any (fun w args=>(s.pre enc C.prog fn conds Ek w args∧laidMetH C.prog laid w)∧sizedMet enc C.prog fn (OpenSpec.ofChange s) Ek w args) (s.post enc C.prog fn Ek Ep Ek Ek):=by
 refine returnsInHanded_of_calls own started A6 witness ?_
 intro w tape i _ hsh _ di Wu Wv
 obtain⟨_,_,_,fn',Ww,_,_,_,_,hval⟩:=di
 obtain rfl:fn'=fn:=I.inj (Ww.symm.trans hfn)
 obtain⟨⟨⟨ds,gs,before,hw,hc⟩,hx⟩,hz⟩:=Wu
 have hW:=DataW.Whole.of_heap (w':=w.forCall tape i) (by rfl) hw
 have hL:laidMetH C.prog laid (w.forCall tape i):=hX _ _ (by rfl) hx
 have ht:=HX _ hsh hL
 suffices h:Calls C.prog f i.args (w.forCall tape i) fun e W'=>∃v,e=.returned v∧s.post enc C.prog fn' Ek Ep Ek Ek (w.forCall tape i) i.args v W' by
  refine h.mono fun e W' ⟨v,he,hp⟩=>?_
  subst he
  exact ChangeSpec.post_blind hp
 have hW':=hW
 obtain⟨p,q,hA,hV,rfl,Eu,qJ⟩:=hW
 rw[xX]at hV
 obtain⟨rfl,rfl⟩:=trodVars_none hV
 obtain⟨Al,xs,po,kB⟩:=q7t Ge (fun j t v ht hv=>⟨w.heap.size,hval j t v (by simpa using ht) (by simpa using hv)⟩) hA
 have HY:=law xs kB (Kw (w.forCall tape i)) (w.forCall tape i) i.args.toList ht (fun r o u h=>(q71 h).1) (fun r o u h=>(q71 h).2) po
 refine(callsIn_wide.1 HY).mono fun e W' he=>?_
 obtain⟨u,K',rfl,HZ,_,_,_,_,fJ,_⟩:=he
 have hu:u=.bool Ep:=fJ.cS
 subst hu
 obtain⟨s1,s2,s3⟩:=HW ds (by simpa using Al)
 refine⟨_,rfl,ds,[],p++[],[],p,[],by simpa using hW',?_,?_,?_,HZ.frame _,fun h=>by cases h⟩
 ·rw[En,s1,dU]
  exact trodAll_mk1 (shut_bool htb _)
 ·rw[En,s2]
  exact q39 HZ HT HU hA
 ·rw[En,s3,xX]
  rfl
end
end Go.Abs
