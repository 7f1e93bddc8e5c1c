/- A law's row out of its call in the abstract machine, where the row lists variables of the . -/
import Derived.Test.YtfopaakmgogpiaaGreatDoorAbsH
import Derived.HandedShaped
import Derived.LaidMore
import Derived.Lay
import Derived.Shelf.Vars
open Option renaming some→I,bind_eq_some_iff→En,bind_some→E6,none→G2
open Bool renaming false→E1,true→E4
open List renaming append_nil→E2,cons→E3,map_cons→Ha,map_nil→Hb
namespace Go.Abs
open Go.ChangeShapes Go.WideShapes Go.ChangeAt Go.RowKit
section
variable {P:Program}{H:Type}{enc:TypeId×Value→H}{w:World}
theorem UM:∀ {l:List (String×DataW Unit)} {ps:List MemPlace},DataW.LaidVars P w l ps→∀n d,(n,d)∈l→∃g t cs fuel p,P.globalNamed n=I g∧(P.globals[g]?).map (·.type)=I t∧w.var? P n=I cs∧DataW.trod (fun _=>()) P w 0 (fun _=>E4) E1 fuel t cs.toList=I (d,p)
 | [],_,_,n,d,hm=>by cases hm
 |(m,e)::l,ps,h,n,d,hm=>by
  obtain⟨g,t,cs,fuel,p,q,h1,h2,h3,h4,h5,_⟩:=h
  rcases List.mem_cons.1 hm with hm|hm
  ·cases hm
   exact⟨g,t,cs,fuel,p,h1,h2,h3,h4⟩
  ·exact UM h5 n d hm
theorem jnf (hA:∀g,P.globalNamed nv=I g→g<w.heap.size∧Lib.TabIs P w nv .u64 Lib.pow10Tab)(hB:∀g,P.globalNamed wF=I g→g<w.heap.size∧∃m,w.cell? ⟨g,0,G2⟩=I (.int .i64 m))
  (hC:∀x∈CY,∀g,P.globalNamed x.1=I g→g<w.heap.size∧∀j n,x.2[j]?=I n→w.cell? ⟨g,j,G2⟩=I (.int .i64 n)):Tabs P w:=by
 intro g hg
 refine⟨?_,fun h=>(hA g h).2,fun h=>(hB g h).2,fun x hx h=>(hC x hx g h).2⟩
 rcases hg with h|h|⟨x,hx,h⟩
 ·exact(hA g h).1
 ·exact(hB g h).1
 ·exact(hC x hx g h).1
theorem jcg {n:String}{g:Nat}{cs:Array Value}(hg:P.globalNamed n=I g)(hv:w.var? P n=I cs):g<w.heap.size∧∀j v,cs[j]?=I v→w.cell? ⟨g,j,G2⟩=I v:=by
 unfold World.var? at hv
 rw[hg]at hv
 simp only[E6]at hv
 split at hv
 ·rename_i c t f hc
  cases hv
  refine⟨(Array.getElem?_eq_some_iff.1 hc).1,fun j v hj=>?_⟩
  simp[World.cell?,hc,hj]
 ·cases hv
theorem jfj {laid:List (String×DataW Unit)}{gt t e:TypeId}{n:Nat}(oS:P.globalNamed nv=I gt)
  (jK:(P.globals[gt]?).map (·.type)=I t) (ht:P.underlying t=I (.array n e)) (he:P.underlying e=I (.int .u64)) (hce:P.cellsOf e=1) (dU:P.cellsOf t=n)
  (hm:(nv,Lib.tabData .u64 Lib.pow10Tab)∈laid) (hl:laidMet P laid w):∀g,P.globalNamed nv=I g→g<w.heap.size∧Lib.TabIs P w nv .u64 Lib.pow10Tab:=by
 intro g hg
 obtain⟨ps,hv,_⟩:=hl
 obtain⟨g',t',cs,fuel,p,a1,a2,a3,a4⟩:=UM hv _ _ hm
 obtain rfl:=I.inj (oS.symm.trans a1)
 obtain rfl:=I.inj (oS.symm.trans hg)
 obtain rfl:=I.inj (jK.symm.trans a2)
 refine⟨(jcg oS a3).1,?_⟩
 unfold Lib.TabIs
 rw[a3,←Lib.cells_of_tab ht he hce dU a4]
theorem ji9 {gl tl:TypeId}{zero:Array Value}(zN:P.globalNamed wF=I gl)
  (cD:gl<P.globals.size) (vq:((begin P (fun _ _=>0) default).world.heap[gl]?).bind Obj.row?=I (zero,tl)) (kY:zero.size=1) (hb:P.buildable tl=E4) (hc:P.cellTypes P.depth tl=I [tl]) (hu:P.underlying tl=I (.int .i64))
  (hsh:w.ShapedOpen P):∀g,P.globalNamed wF=I g→g<w.heap.size∧∃m,w.cell? ⟨g,0,G2⟩=I (.int .i64 m):=by
 intro g hg
 obtain rfl:=I.inj (zN.symm.trans hg)
 obtain⟨m,lQ⟩:=Go.Proofs.cell_of_shapedOpen_int (k:=.i64) hsh cD vq kY hb hc hu
 refine⟨?_,m,lQ⟩
 unfold World.cell? at lQ
 rcases Nat.lt_or_ge gl w.heap.size with h|h
 ·exact h
 ·simp only[Array.getElem?_eq_none h]at lQ;simp at lQ
theorem UN {n:String}{Q:Nat→Prop}(h:P.globalNamed n=G2):∀g,P.globalNamed n=I g→Q g:=fun g hg=>by rw[h]at hg;cases hg
theorem qwv {α:Type}:∀ {l:List α},l.length=2→∃a b,l=[a,b]
 | [a,b],_=>⟨a,b,rfl⟩
 | [],h=>by cases h
 | [_],h=>by cases h
 |_::_::_::_,h=>by simp at h
theorem j8z {laid:List (String×DataW Unit)}{n:String}{gv t ti:TypeId}{fs:Array Field}{a b:Int}(UO:P.globalNamed n=I gv)
  (jK:(P.globals[gv]?).map (·.type)=I t) (ht:P.underlying t=I (.struct fs)) (Nh:fs.toList.map (fun f=>(f.type,f.offset))=[(ti,0),(ti,1)]) (hi:P.underlying ti=I (.int .i64)) (pY:P.cellsOf ti=1) (dU:P.cellsOf t=2)
  (hm:(n,.agg [.lit (.int .i64 a),.lit (.int .i64 b)])∈laid) (hl:laidMet P laid w):∀g,P.globalNamed n=I g→g<w.heap.size∧∀j k,[a,b][j]?=I k→w.cell? ⟨g,j,G2⟩=I (.int .i64 k):=by
 intro g hg
 obtain⟨ps,hv,_⟩:=hl
 obtain⟨g',t',cs,fuel,p,a1,a2,a3,a4⟩:=UM hv _ _ hm
 obtain rfl:=I.inj (UO.symm.trans a1)
 obtain rfl:=I.inj (UO.symm.trans hg)
 obtain rfl:=I.inj (jK.symm.trans a2)
 obtain⟨h1,h2⟩:=jcg UO a3
 refine⟨h1,?_⟩
 cases fuel with
 |zero=>simp[DataW.trod]at a4
 |succ fuel=>
  simp only[DataW.trod,ht]at a4
  split at a4
  ·rename_i hl
   rw[dU]at hl
   obtain⟨f1,f2,zz⟩:∃f1 f2,fs.toList=[f1,f2]:=qwv (by have h:=congrArg List.length Nh;simpa using h)
   obtain⟨c1,c2,hcs⟩:∃c1 c2,cs.toList=[c1,c2]:=qwv hl
   rw[zz]at Nh
   simp only[Ha,Hb,E3.injEq,Prod.mk.injEq,and_true]at Nh
   obtain⟨⟨e1,e2⟩,e3,e4⟩:=Nh
   simp only[zz,hcs,List.mapM_cons,List.mapM_nil,e1,e2,e3,e4,pY,List.drop_zero,List.take,List.drop,Option.bind_eq_bind,Option.pure_def]at a4
   obtain⟨xs,hx,hy⟩:=Option.map_eq_some_iff.1 a4
   obtain⟨y1,k1,hx⟩:=En.1 hx
   obtain⟨ys,k2,hx⟩:=En.1 hx
   obtain⟨y2,k3,k2⟩:=En.1 k2
   cases hx
   simp only[E6,I.injEq]at k2
   subst k2
   simp only[Ha,Hb,Prod.mk.injEq,DataW.agg.injEq,E3.injEq,and_true]at hy
   obtain⟨⟨Md,hy2⟩,_⟩:=hy
   obtain⟨y1,p1⟩:=y1
   obtain⟨y2,p2⟩:=y2
   simp only at Md hy2
   subst Md
   subst hy2
   obtain⟨z1,g1,g2,_⟩:=DataW.trod_int hi k1
   obtain⟨z2,g3,g4,_⟩:=DataW.trod_int hi k3
   cases g2
   cases g4
   intro j k hj
   refine h2 j _ ?_
   have UQ:cs=#[.int .i64 a,.int .i64 b]:=by
    apply Array.ext'
    rw[hcs,(E3.inj g1).1,(E3.inj g3).1]
   rw[UQ]
   match j,hj with
   |0,hj=>simp at hj;subst hj;rfl
   |1,hj=>simp at hj;subst hj;rfl
  ·cases a4
theorem qyh {C:Checked}{os:Os}{f:FuncId}{fn:Func}{s:ChangeSpec}{conds:List PathCond}{laid:List (String×DataW Unit)}(n:Nat)(tb:TypeId)
  (hX:∀(w w':World),w.heap=w'.heap→laidMetH C.prog laid w→laidMetH C.prog laid w')
  (own:ownKnob C.prog.godebug=G2) (started:os.Started) (Ad:C.prog.inits.idxOf? f=G2) (hfn:C.prog.funcs[f]?=I fn)
  (witness:∃(w:World) (tape:Tape) (i:Input),w.os=os∧(w.forCall tape i).Shaped C.prog∧i.vars=[]∧Input.okWide C.prog (w.forCall tape i) .any w.heap.size f i ∧
   ((s.pre enc C.prog fn conds E1 (w.forCall tape i).memory i.args∧laidMetH C.prog laid (w.forCall tape i).memory)∧sizedMet enc C.prog fn (OpenSpec.ofChange s) E1 (w.forCall tape i).memory i.args)∧Assume.holds {} C.prog (lone (Frame.enter C.prog f i.args .normal) [] (w.forCall tape i)))
  (xd:s.vars=[]) (dO:fn.resultTypes=#[tb]) (htb:C.prog.underlying tb=I .bool) (Gk:laidOutB C.prog=E4) (EL:fn.params.toList.all (qF C.prog n)=E4)
  (Gl:fn.params.toList.all (fun t=>C.prog.readableRec t&&decide (t<C.prog.types.size))=E4)
  (Gm:∀ds:List (DataW H),ds.length=fn.params.size→(s.fn H ds).results=[.lit (.bool E4)]∧(s.fn H ds).args=ds∧(s.fn H ds).vars=[])
  (law:∀xs,qpp C.prog n fn.params.toList xs→IsoCall C.prog f xs (.bool E4) E1) (Gn:∀W:World,W.ShapedOpen C.prog→laidMetH C.prog laid W→Tabs C.prog W):
  ReturnsInHanded {} C os f .any (fun w args=>(s.pre enc C.prog fn conds E1 w args∧laidMetH C.prog laid w)∧sizedMet enc C.prog fn (OpenSpec.ofChange s) E1 w args) (s.post enc C.prog fn E1 E4 E1 E1):=by
 refine returnsInHanded_of_calls own started Ad witness ?_
 intro w tape i _ hsh _ df UR US
 obtain⟨_,_,_,fn',UT,_,_,_,_,hval⟩:=df
 obtain rfl:fn'=fn:=I.inj (UT.symm.trans hfn)
 obtain⟨⟨⟨ds,gs,before,hw,hc⟩,hx⟩,hz⟩:=UR
 have hW:=DataW.Whole.of_heap (w':=w.forCall tape i) (by rfl) hw
 have hL:laidMetH C.prog laid (w.forCall tape i):=hX _ _ (by rfl) hx
 have ht:=Gn _ hsh hL
 suffices h:Calls C.prog f i.args (w.forCall tape i) fun e W'=>∃v,e=.returned v∧s.post enc C.prog fn' E1 E4 E1 E1 (w.forCall tape i) i.args v W' by
  refine h.mono fun e W' ⟨v,he,hp⟩=>?_
  subst he
  exact ChangeSpec.post_blind hp
 have hW':=hW
 obtain⟨p,q,hA,hV,rfl,Df,Db⟩:=hW
 rw[xd]at hV
 obtain⟨rfl,rfl⟩:=trodVars_none hV
 obtain⟨yY,xs,oL,jK⟩:=q6k EL (fun j t v ht hv=>⟨w.heap.size,hval j t v (by simpa using ht) (by simpa using hv)⟩) hA
 have Gp:=law xs jK (Kw (w.forCall tape i)) (w.forCall tape i) i.args.toList ht (fun r o u h=>(q66 h).1) (fun r o u h=>(q66 h).2) oL
 refine(callsIn_wide.1 Gp).mono fun e W' he=>?_
 obtain⟨u,K',rfl,Gq,_,_,_,_,fE,_⟩:=he
 have hu:u=.bool E4:=fE.cS
 subst hu
 obtain⟨s1,s2,s3⟩:=Gm ds (by simpa using yY)
 refine⟨_,rfl,ds,[],p++[],[],p,[],by simpa using hW',?_,?_,?_,Gq.frame _,fun h=>by cases h⟩
 ·rw[E2,s1,dO]
  exact trodAll_mk1 (shut_bool htb _)
 ·rw[E2,s2]
  exact q3b Gq Gk Gl hA
 ·rw[E2,s3,xd]
  rfl
end
end Go.Abs
