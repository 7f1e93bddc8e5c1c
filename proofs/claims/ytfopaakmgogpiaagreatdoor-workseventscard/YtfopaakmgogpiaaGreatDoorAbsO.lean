/- A law's row out of its call in the abstract machine, where the row lists variables of the . -/
import Derived.Test.YtfopaakmgogpiaaGreatDoorAbsH
import Derived.Handed
import Derived.HandedShaped
import Derived.LaidMore
import Derived.Lay
import Derived.Lib.LaidTab
import Derived.Shelf.Vars
set_option linter.unusedVariables false
set_option linter.unusedSimpArgs false
open Option renaming some→I,bind_eq_some_iff→Ef,bind_some→E6,none→E7
open Bool renaming false→En,true→E4
open List renaming append_nil→E1,cons→E3,map_cons→E9,map_nil→Ga
namespace Go.Abs
open Go.ChangeShapes Go.WideShapes Go.ChangeAt Go.RowKit
section
variable {P:Program}{H:Type}{enc:TypeId×Value→H}{w:World}
theorem UN:∀ {l:List (String×DataW Unit)} {ps:List MemPlace},DataW.LaidVars P w l ps→∀n d,(n,d)∈l→∃g t cs fuel p,P.globalNamed n=I g∧(P.globals[g]?).map (·.type)=I t∧w.var? P n=I cs∧DataW.trod (fun _=>()) P w 0 (fun _=>E4) En fuel t cs.toList=I (d,p)
 | [],_,_,n,d,hm=>by cases hm
 |(m,e)::l,ps,h,n,d,hm=>by
  obtain⟨g,t,cs,fuel,p,q,h1,h2,h3,h4,h5,_⟩:=h
  rcases List.mem_cons.1 hm with hm|hm
  ·cases hm
   exact⟨g,t,cs,fuel,p,h1,h2,h3,h4⟩
  ·exact UN h5 n d hm
theorem jlj (hA:∀g,P.globalNamed nD=I g→g<w.heap.size∧Lib.TabIs P w nD .u64 Lib.pow10Tab)(hB:∀g,P.globalNamed wT=I g→g<w.heap.size∧∃m,w.cell? ⟨g,0,E7⟩=I (.int .i64 m))
  (hC:∀x∈Dg,∀g,P.globalNamed x.1=I g→g<w.heap.size∧∀j n,x.2[j]?=I n→w.cell? ⟨g,j,E7⟩=I (.int .i64 n)):Tabs P w:=by
 intro g hg
 refine⟨?_,fun h=>(hA g h).2,fun h=>(hB g h).2,fun x hx h=>(hC x hx g h).2⟩
 rcases hg with h|h|⟨x,hx,h⟩
 ·exact(hA g h).1
 ·exact(hB g h).1
 ·exact(hC x hx g h).1
theorem jc1 {n:String}{g:Nat}{cs:Array Value}(hg:P.globalNamed n=I g)(hv:w.var? P n=I cs):g<w.heap.size∧∀j v,cs[j]?=I v→w.cell? ⟨g,j,E7⟩=I v:=by
 unfold World.var? at hv
 rw[hg]at hv
 simp only[E6]at hv
 split at hv
 ·rename_i c t f hc
  cases hv
  refine⟨(Array.getElem?_eq_some_iff.1 hc).1,fun j v hj=>?_⟩
  simp[World.cell?,hc,hj]
 ·cases hv
theorem jeo {laid:List (String×DataW Unit)}{gt t e:TypeId}{n:Nat}(pi:P.globalNamed nD=I gt)
  (jS:(P.globals[gt]?).map (·.type)=I t) (ht:P.underlying t=I (.array n e)) (he:P.underlying e=I (.int .u64)) (hce:P.cellsOf e=1) (dY:P.cellsOf t=n)
  (hm:(nD,Lib.tabData .u64 Lib.pow10Tab)∈laid) (hl:laidMet P laid w):∀g,P.globalNamed nD=I g→g<w.heap.size∧Lib.TabIs P w nD .u64 Lib.pow10Tab:=by
 intro g hg
 obtain⟨ps,hv,_⟩:=hl
 obtain⟨g',t',cs,fuel,p,a1,a2,a3,a4⟩:=UN hv _ _ hm
 obtain rfl:=I.inj (pi.symm.trans a1)
 obtain rfl:=I.inj (pi.symm.trans hg)
 obtain rfl:=I.inj (jS.symm.trans a2)
 refine⟨(jc1 pi a3).1,?_⟩
 unfold Lib.TabIs
 rw[a3,←Lib.cells_of_tab ht he hce dY a4]
theorem jex {gl tl:TypeId}{zero:Array Value}(Ab:P.globalNamed wT=I gl)
  (cD:gl<P.globals.size) (vD:((begin P (fun _ _=>0) default).world.heap[gl]?).bind Obj.row?=I (zero,tl)) (lj:zero.size=1) (hb:P.buildable tl=E4) (hc:P.cellTypes P.depth tl=I [tl]) (hu:P.underlying tl=I (.int .i64))
  (hsh:w.ShapedOpen P):∀g,P.globalNamed wT=I g→g<w.heap.size∧∃m,w.cell? ⟨g,0,E7⟩=I (.int .i64 m):=by
 intro g hg
 obtain rfl:=I.inj (Ab.symm.trans hg)
 obtain⟨m,lY⟩:=Go.Proofs.cell_of_shapedOpen_int (k:=.i64) hsh cD vD lj hb hc hu
 refine⟨?_,m,lY⟩
 unfold World.cell? at lY
 rcases Nat.lt_or_ge gl w.heap.size with h|h
 ·exact h
 ·simp only[Array.getElem?_eq_none h]at lY;simp at lY
theorem UO {n:String}{Q:Nat→Prop}(h:P.globalNamed n=E7):∀g,P.globalNamed n=I g→Q g:=fun g hg=>by rw[h]at hg;cases hg
theorem qw1 {α:Type}:∀ {l:List α},l.length=2→∃a b,l=[a,b]
 | [a,b],_=>⟨a,b,rfl⟩
 | [],h=>by cases h
 | [_],h=>by cases h
 |_::_::_::_,h=>by simp at h
theorem j85 {laid:List (String×DataW Unit)}{n:String}{gv t ti:TypeId}{fs:Array Field}{a b:Int}(UQ:P.globalNamed n=I gv)
  (jS:(P.globals[gv]?).map (·.type)=I t) (ht:P.underlying t=I (.struct fs)) (Nf:fs.toList.map (fun f=>(f.type,f.offset))=[(ti,0),(ti,1)]) (hi:P.underlying ti=I (.int .i64)) (qF:P.cellsOf ti=1) (dY:P.cellsOf t=2)
  (hm:(n,.agg [.lit (.int .i64 a),.lit (.int .i64 b)])∈laid) (hl:laidMet P laid w):∀g,P.globalNamed n=I g→g<w.heap.size∧∀j k,[a,b][j]?=I k→w.cell? ⟨g,j,E7⟩=I (.int .i64 k):=by
 intro g hg
 obtain⟨ps,hv,_⟩:=hl
 obtain⟨g',t',cs,fuel,p,a1,a2,a3,a4⟩:=UN hv _ _ hm
 obtain rfl:=I.inj (UQ.symm.trans a1)
 obtain rfl:=I.inj (UQ.symm.trans hg)
 obtain rfl:=I.inj (jS.symm.trans a2)
 obtain⟨h1,h2⟩:=jc1 UQ a3
 refine⟨h1,?_⟩
 cases fuel with
 |zero=>simp[DataW.trod]at a4
 |succ fuel=>
  simp only[DataW.trod,ht]at a4
  split at a4
  ·rename_i hl
   rw[dY]at hl
   obtain⟨f1,f2,zN⟩:∃f1 f2,fs.toList=[f1,f2]:=qw1 (by have h:=congrArg List.length Nf;simpa using h)
   obtain⟨c1,c2,hcs⟩:∃c1 c2,cs.toList=[c1,c2]:=qw1 hl
   rw[zN]at Nf
   simp only[E9,Ga,E3.injEq,Prod.mk.injEq,and_true]at Nf
   obtain⟨⟨e1,e2⟩,e3,e4⟩:=Nf
   simp only[zN,hcs,List.mapM_cons,List.mapM_nil,e1,e2,e3,e4,qF,List.drop_zero,List.take,List.drop,Option.bind_eq_bind,Option.pure_def]at a4
   obtain⟨xs,hx,hy⟩:=Option.map_eq_some_iff.1 a4
   obtain⟨y1,k1,hx⟩:=Ef.1 hx
   obtain⟨ys,k2,hx⟩:=Ef.1 hx
   obtain⟨y2,k3,k2⟩:=Ef.1 k2
   cases hx
   simp only[E6,I.injEq]at k2
   subst k2
   simp only[E9,Ga,Prod.mk.injEq,DataW.agg.injEq,E3.injEq,and_true]at hy
   obtain⟨⟨Ma,hy2⟩,_⟩:=hy
   obtain⟨y1,p1⟩:=y1
   obtain⟨y2,p2⟩:=y2
   simp only at Ma hy2
   subst Ma
   subst hy2
   obtain⟨z1,g1,g2,_⟩:=DataW.trod_int hi k1
   obtain⟨z2,g3,g4,_⟩:=DataW.trod_int hi k3
   cases g2
   cases g4
   intro j k hj
   refine h2 j _ ?_
   have UR:cs=#[.int .i64 a,.int .i64 b]:=by
    apply Array.ext'
    rw[hcs,(E3.inj g1).1,(E3.inj g3).1]
   rw[UR]
   match j,hj with
   |0,hj=>simp at hj;subst hj;rfl
   |1,hj=>simp at hj;subst hj;rfl
  ·cases a4
theorem qx9 {C:Checked}{os:Os}{f:FuncId}{fn:Func}{s:ChangeSpec}{conds:List PathCond}{laid:List (String×DataW Unit)}(n:Nat)(tb:TypeId)
  (hX:∀(w w':World),w.heap=w'.heap→laidMetH C.prog laid w→laidMetH C.prog laid w')
  (own:ownKnob C.prog.godebug=E7) (started:os.Started) (Au:C.prog.inits.idxOf? f=E7) (hfn:C.prog.funcs[f]?=I fn)
  (witness:∃(w:World) (tape:Tape) (i:Input),w.os=os∧(w.forCall tape i).Shaped C.prog∧i.vars=[]∧Input.okWide C.prog (w.forCall tape i) .any w.heap.size f i ∧
   ((s.pre enc C.prog fn conds En (w.forCall tape i).memory i.args∧laidMetH C.prog laid (w.forCall tape i).memory)∧sizedMet enc C.prog fn (OpenSpec.ofChange s) En (w.forCall tape i).memory i.args)∧Assume.holds {} C.prog (lone (Frame.enter C.prog f i.args .normal) [] (w.forCall tape i)))
  (xq:s.vars=[]) (dS:fn.resultTypes=#[tb]) (htb:C.prog.underlying tb=I .bool) (Gy:laidOutB C.prog=E4) (E0:fn.params.toList.all (qM C.prog n)=E4)
  (Gz:fn.params.toList.all (fun t=>C.prog.readableRec t&&decide (t<C.prog.types.size))=E4)
  (GD:∀ds:List (DataW H),ds.length=fn.params.size→(s.fn H ds).results=[.lit (.bool E4)]∧(s.fn H ds).args=ds∧(s.fn H ds).vars=[])
  (law:∀xs,qo8 C.prog n fn.params.toList xs→IsoCall C.prog f xs (.bool E4) En) (GF:∀W:World,W.ShapedOpen C.prog→laidMetH C.prog laid W→Tabs C.prog W):
  ReturnsInHanded {} C os f .any (fun w args=>(s.pre enc C.prog fn conds En w args∧laidMetH C.prog laid w)∧sizedMet enc C.prog fn (OpenSpec.ofChange s) En w args) (s.post enc C.prog fn En E4 En En):=by
 refine returnsInHanded_of_calls own started Au witness ?_
 intro w tape i _ hsh _ dj US UT
 obtain⟨_,_,_,fn',UU,_,_,_,_,hval⟩:=dj
 obtain rfl:fn'=fn:=I.inj (UU.symm.trans hfn)
 obtain⟨⟨⟨ds,gs,before,hw,hc⟩,hx⟩,hz⟩:=US
 have hW:=DataW.Whole.of_heap (w':=w.forCall tape i) (by rfl) hw
 have hL:laidMetH C.prog laid (w.forCall tape i):=hX _ _ (by rfl) hx
 have ht:=GF _ hsh hL
 suffices h:Calls C.prog f i.args (w.forCall tape i) fun e W'=>∃v,e=.returned v∧s.post enc C.prog fn' En E4 En En (w.forCall tape i) i.args v W' by
  refine h.mono fun e W' ⟨v,he,hp⟩=>?_
  subst he
  exact ChangeSpec.post_blind hp
 have hW':=hW
 obtain⟨p,q,hA,hV,rfl,Du,Dq⟩:=hW
 rw[xq]at hV
 obtain⟨rfl,rfl⟩:=trodVars_none hV
 obtain⟨zH,xs,oW,jS⟩:=q6i E0 (fun j t v ht hv=>⟨w.heap.size,hval j t v (by simpa using ht) (by simpa using hv)⟩) hA
 have GG:=law xs jS (Kw (w.forCall tape i)) (w.forCall tape i) i.args.toList ht (fun r o u h=>(q6k h).1) (fun r o u h=>(q6k h).2) oW
 refine(callsIn_wide.1 GG).mono fun e W' he=>?_
 obtain⟨u,K',rfl,GH,_,_,_,_,fI,_⟩:=he
 have hu:u=.bool E4:=fI.cV
 subst hu
 obtain⟨s1,s2,s3⟩:=GD ds (by simpa using zH)
 refine⟨_,rfl,ds,[],p++[],[],p,[],by simpa using hW',?_,?_,?_,GH.frame _,fun h=>by cases h⟩
 ·rw[E1,s1,dS]
  exact trodAll_mk1 (shut_bool htb _)
 ·rw[E1,s2]
  exact q2u GH Gy Gz hA
 ·rw[E1,s3,xq]
  rfl
end
end Go.Abs
