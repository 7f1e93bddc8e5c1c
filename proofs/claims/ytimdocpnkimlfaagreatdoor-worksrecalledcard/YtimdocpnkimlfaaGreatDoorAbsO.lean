/- A law's row out of its call in the abstract machine, where the row lists variables of the . -/
import Derived.Test.YtimdocpnkimlfaaGreatDoorAbsG
import Derived.HandedShaped
import Derived.LaidMore
import Derived.Lay
import Derived.Shelf.Vars
set_option linter.unusedVariables false
set_option linter.unusedSimpArgs false
open Option renaming some→I,none→Gc
open Bool renaming false→En,true→Ga
open List renaming append_nil→E3
namespace Go.Abs
open Go.ChangeShapes Go.WideShapes Go.ChangeAt Go.RowKit
section
variable {P:Program}{H:Type}{enc:TypeId×Value→H}{w:World}
theorem q8h:∀ {l:List (String×DataW Unit)} {ps:List MemPlace},DataW.LaidVars P w l ps→∀n d,(n,d)∈l→∃g t cs fuel p,P.globalNamed n=I g∧(P.globals[g]?).map (·.type)=I t∧w.var? P n=I cs∧DataW.trod (fun _=>()) P w 0 (fun _=>Ga) En fuel t cs.toList=I (d,p)
 | [],_,_,n,d,hm=>by cases hm
 |(m,e)::l,ps,h,n,d,hm=>by
  obtain⟨g,t,cs,fuel,p,q,h1,h2,h3,h4,h5,_⟩:=h
  rcases List.mem_cons.1 hm with hm|hm
  ·cases hm
   exact⟨g,t,cs,fuel,p,h1,h2,h3,h4⟩
  ·exact q8h h5 n d hm
theorem jqt (hA:∀g,P.globalNamed oc=I g→g<w.heap.size∧Lib.TabIs P w oc .u64 Lib.pow10Tab)(hB:∀g,P.globalNamed xU=I g→g<w.heap.size∧∃m,w.cell? ⟨g,0,Gc⟩=I (.int .i64 m))
  (hC:∀x∈Du,∀g,P.globalNamed x.1=I g→g<w.heap.size∧∀j n,x.2[j]?=I n→w.cell? ⟨g,j,Gc⟩=I (.int .i64 n)):Tabs P w:=by
 intro g hg
 refine⟨?_,fun h=>(hA g h).2,fun h=>(hB g h).2,fun x hx h=>(hC x hx g h).2⟩
 rcases hg with h|h|⟨x,hx,h⟩
 ·exact(hA g h).1
 ·exact(hB g h).1
 ·exact(hC x hx g h).1
theorem jtd {n g cs}(hg:P.globalNamed n=I g)(hv:w.var? P n=I cs):g<w.heap.size∧∀j v,cs[j]?=I v→w.cell? ⟨g,j,Gc⟩=I v:=by
 unfold World.var? at hv
 rw[hg]at hv
 simp only[Option.bind_some]at hv
 split at hv
 ·rename_i c t f hc
  cases hv
  refine⟨(Array.getElem?_eq_some_iff.1 hc).1,fun j v hj=>?_⟩
  simp[World.cell?,hc,hj]
 ·cases hv
theorem jg8 {laid}{gt t e:TypeId}{n}(pG:P.globalNamed oc=I gt)
  (lI:(P.globals[gt]?).map (·.type)=I t) (ht:P.underlying t=I (.array n e)) (he:P.underlying e=I (.int .u64)) (hce:P.cellsOf e=1) (eI:P.cellsOf t=n)
  (hm:(oc,Lib.tabData .u64 Lib.pow10Tab)∈laid) (hl:laidMet P laid w):∀g,P.globalNamed oc=I g→g<w.heap.size∧Lib.TabIs P w oc .u64 Lib.pow10Tab:=by
 intro g hg
 obtain⟨ps,hv,_⟩:=hl
 obtain⟨g',t',cs,fuel,p,a1,a2,a3,a4⟩:=q8h hv _ _ hm
 obtain rfl:=I.inj (pG.symm.trans a1)
 obtain rfl:=I.inj (pG.symm.trans hg)
 obtain rfl:=I.inj (lI.symm.trans a2)
 refine⟨(jtd pG a3).1,?_⟩
 unfold Lib.TabIs
 rw[a3,←Lib.cells_of_tab ht he hce eI a4]
theorem jjg {gl tl:TypeId}{zero}(AV:P.globalNamed xU=I gl)
  (cS:gl<P.globals.size) (pI:((begin P (fun _ _=>0) default).world.heap[gl]?).bind Obj.row?=I (zero,tl)) (lJ:zero.size=1) (hb:P.buildable tl=Ga) (hc:P.cellTypes P.depth tl=I [tl]) (hu:P.underlying tl=I (.int .i64))
  (hsh:w.ShapedOpen P):∀g,P.globalNamed xU=I g→g<w.heap.size∧∃m,w.cell? ⟨g,0,Gc⟩=I (.int .i64 m):=by
 intro g hg
 obtain rfl:=I.inj (AV.symm.trans hg)
 obtain⟨m,mF⟩:=Go.Proofs.cell_of_shapedOpen_int (k:=.i64) hsh cS pI lJ hb hc hu
 refine⟨?_,m,mF⟩
 unfold World.cell? at mF
 rcases Nat.lt_or_ge gl w.heap.size with h|h
 ·exact h
 ·simp only[Array.getElem?_eq_none h]at mF;simp at mF
theorem Tq {n:String}{Q:Nat→Prop}(h:P.globalNamed n=Gc):∀g,P.globalNamed n=I g→Q g:=fun g hg=>by rw[h]at hg;cases hg
theorem qvg {C os f fn s conds laid}(n:Nat)(tb:TypeId)
  (hX:∀(w w':World),w.heap=w'.heap→laidMetH C.prog laid w→laidMetH C.prog laid w')
  (own:ownKnob C.prog.godebug=Gc) (started:os.Started) (Bd:C.prog.inits.idxOf? f=Gc) (hfn:C.prog.funcs[f]?=I fn)
  (witness:∃(w:World) (tape:Tape) (i:Input),w.os=os∧(w.forCall tape i).Shaped C.prog∧i.vars=[]∧Input.okWide C.prog (w.forCall tape i) .any w.heap.size f i ∧
   ((s.pre enc C.prog fn conds En (w.forCall tape i).memory i.args∧laidMetH C.prog laid (w.forCall tape i).memory)∧sizedMet enc C.prog fn (OpenSpec.ofChange s) En (w.forCall tape i).memory i.args)∧Assume.holds {} C.prog (lone (Frame.enter C.prog f i.args .normal) [] (w.forCall tape i)))
  (yN:s.vars=[]) (eu:fn.resultTypes=#[tb]) (htb:C.prog.underlying tb=I .bool) (G6:laidOutB C.prog=Ga) (Fu:fn.params.toList.all (rP C.prog n)=Ga)
  (G7:fn.params.toList.all (fun t=>C.prog.readableRec t&&decide (t<C.prog.types.size))=Ga)
  (G8:∀ds:List (DataW H),ds.length=fn.params.size→(s.fn H ds).results=[.lit (.bool Ga)]∧(s.fn H ds).args=ds∧(s.fn H ds).vars=[])
  (law:∀xs,qoj C.prog n fn.params.toList xs→IsoCall C.prog f xs (.bool Ga) En) (G9:∀W:World,W.ShapedOpen C.prog→laidMetH C.prog laid W→Tabs C.prog W):
  ReturnsInHanded {} C os f .any (fun w args=>(s.pre enc C.prog fn conds En w args∧laidMetH C.prog laid w)∧sizedMet enc C.prog fn (OpenSpec.ofChange s) En w args) (s.post enc C.prog fn En Ga En En):=by
 refine returnsInHanded_of_calls own started Bd witness ?_
 intro w tape i _ hsh _ dE Ts Tt
 obtain⟨_,_,_,fn',Tv,_,_,_,_,hval⟩:=dE
 obtain rfl:fn'=fn:=I.inj (Tv.symm.trans hfn)
 obtain⟨⟨⟨ds,gs,before,hw,hc⟩,hx⟩,hz⟩:=Ts
 have hW:=DataW.Whole.of_heap (w':=w.forCall tape i) (by rfl) hw
 have hL:laidMetH C.prog laid (w.forCall tape i):=hX _ _ (by rfl) hx
 have ht:=G9 _ hsh hL
 suffices h:Calls C.prog f i.args (w.forCall tape i) fun e W'=>∃v,e=.returned v∧s.post enc C.prog fn' En Ga En En (w.forCall tape i) i.args v W' by
  refine h.mono fun e W' ⟨v,he,hp⟩=>?_
  subst he
  exact ChangeSpec.post_blind hp
 have hW':=hW
 obtain⟨p,q,hA,hV,rfl,DJ,qV⟩:=hW
 rw[yN]at hV
 obtain⟨rfl,rfl⟩:=trodVars_none hV
 obtain⟨Aw,xs,nj,lI⟩:=q7u Fu (fun j t v ht hv=>⟨w.heap.size,hval j t v (by simpa using ht) (by simpa using hv)⟩) hA
 have Hc:=law xs lI (Kw (w.forCall tape i)) (w.forCall tape i) i.args.toList ht (fun r o u h=>(q7t h).1) (fun r o u h=>(q7t h).2) nj
 refine(callsIn_wide.1 Hc).mono fun e W' he=>?_
 obtain⟨u,K',rfl,Hd,_,_,_,_,ga,_⟩:=he
 have hu:u=.bool Ga:=ga.di
 subst hu
 obtain⟨s1,s2,s3⟩:=G8 ds (by simpa using Aw)
 refine⟨_,rfl,ds,[],p++[],[],p,[],by simpa using hW',?_,?_,?_,Hd.frame _,fun h=>by cases h⟩
 ·rw[E3,s1,eu]
  exact trodAll_mk1 (shut_bool htb _)
 ·rw[E3,s2]
  exact q2n Hd G6 G7 hA
 ·rw[E3,s3,yN]
  rfl
end
end Go.Abs
