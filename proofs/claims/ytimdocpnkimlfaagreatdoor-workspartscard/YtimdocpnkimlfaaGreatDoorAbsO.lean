/- A law's row out of its call in the abstract machine, where the row lists variables of the . -/
import Derived.Test.YtimdocpnkimlfaaGreatDoorAbsG
import Derived.HandedShaped
import Derived.LaidMore
import Derived.Lay
import Derived.Shelf.Vars
set_option linter.unusedVariables false
set_option linter.unusedSimpArgs false
open Option renaming some→I,none→Gp
open Bool renaming false→En,true→Gn
open List renaming append_nil→Ey
namespace Go.Abs
open Go.ChangeShapes Go.WideShapes Go.ChangeAt Go.RowKit
section
variable {P:Program}{H:Type}{enc:TypeId×Value→H}{w:World}
theorem q8q:∀ {l:List (String×DataW Unit)} {ps:List MemPlace},DataW.LaidVars P w l ps→∀n d,(n,d)∈l→∃g t cs fuel p,P.globalNamed n=I g∧(P.globals[g]?).map (·.type)=I t∧w.var? P n=I cs∧DataW.trod (fun _=>()) P w 0 (fun _=>Gn) En fuel t cs.toList=I (d,p)
 | [],_,_,n,d,hm=>by cases hm
 |(m,e)::l,ps,h,n,d,hm=>by
  obtain⟨g,t,cs,fuel,p,q,h1,h2,h3,h4,h5,_⟩:=h
  rcases List.mem_cons.1 hm with hm|hm
  ·cases hm
   exact⟨g,t,cs,fuel,p,h1,h2,h3,h4⟩
  ·exact q8q h5 n d hm
theorem jrk (hA:∀g,P.globalNamed ol=I g→g<w.heap.size∧Lib.TabIs P w ol .u64 Lib.pow10Tab)(hB:∀g,P.globalNamed yR=I g→g<w.heap.size∧∃m,w.cell? ⟨g,0,Gp⟩=I (.int .i64 m))
  (hC:∀x∈Ev,∀g,P.globalNamed x.1=I g→g<w.heap.size∧∀j n,x.2[j]?=I n→w.cell? ⟨g,j,Gp⟩=I (.int .i64 n)):Tabs P w:=by
 intro g hg
 refine⟨?_,fun h=>(hA g h).2,fun h=>(hB g h).2,fun x hx h=>(hC x hx g h).2⟩
 rcases hg with h|h|⟨x,hx,h⟩
 ·exact(hA g h).1
 ·exact(hB g h).1
 ·exact(hC x hx g h).1
theorem jxc {n g cs}(hg:P.globalNamed n=I g)(hv:w.var? P n=I cs):g<w.heap.size∧∀j v,cs[j]?=I v→w.cell? ⟨g,j,Gp⟩=I v:=by
 unfold World.var? at hv
 rw[hg]at hv
 simp only[Option.bind_some]at hv
 split at hv
 ·rename_i c t f hc
  cases hv
  refine⟨(Array.getElem?_eq_some_iff.1 hc).1,fun j v hj=>?_⟩
  simp[World.cell?,hc,hj]
 ·cases hv
theorem jjy {laid}{gt t e:TypeId}{n}(mN:P.globalNamed ol=I gt)
  (lM:(P.globals[gt]?).map (·.type)=I t) (ht:P.underlying t=I (.array n e)) (he:P.underlying e=I (.int .u64)) (hce:P.cellsOf e=1) (eS:P.cellsOf t=n)
  (hm:(ol,Lib.tabData .u64 Lib.pow10Tab)∈laid) (hl:laidMet P laid w):∀g,P.globalNamed ol=I g→g<w.heap.size∧Lib.TabIs P w ol .u64 Lib.pow10Tab:=by
 intro g hg
 obtain⟨ps,hv,_⟩:=hl
 obtain⟨g',t',cs,fuel,p,a1,a2,a3,a4⟩:=q8q hv _ _ hm
 obtain rfl:=I.inj (mN.symm.trans a1)
 obtain rfl:=I.inj (mN.symm.trans hg)
 obtain rfl:=I.inj (lM.symm.trans a2)
 refine⟨(jxc mN a3).1,?_⟩
 unfold Lib.TabIs
 rw[a3,←Lib.cells_of_tab ht he hce eS a4]
theorem jhf {gl tl:TypeId}{zero}(BH:P.globalNamed yR=I gl)
  (db:gl<P.globals.size) (pR:((begin P (fun _ _=>0) default).world.heap[gl]?).bind Obj.row?=I (zero,tl)) (lN:zero.size=1) (hb:P.buildable tl=Gn) (hc:P.cellTypes P.depth tl=I [tl]) (hu:P.underlying tl=I (.int .i64))
  (hsh:w.ShapedOpen P):∀g,P.globalNamed yR=I g→g<w.heap.size∧∃m,w.cell? ⟨g,0,Gp⟩=I (.int .i64 m):=by
 intro g hg
 obtain rfl:=I.inj (BH.symm.trans hg)
 obtain⟨m,mL⟩:=Go.Proofs.cell_of_shapedOpen_int (k:=.i64) hsh db pR lN hb hc hu
 refine⟨?_,m,mL⟩
 unfold World.cell? at mL
 rcases Nat.lt_or_ge gl w.heap.size with h|h
 ·exact h
 ·simp only[Array.getElem?_eq_none h]at mL;simp at mL
theorem Xm {n:String}{Q:Nat→Prop}(h:P.globalNamed n=Gp):∀g,P.globalNamed n=I g→Q g:=fun g hg=>by rw[h]at hg;cases hg
theorem qku {C os f fn s conds laid}(n:Nat)(tb:TypeId)
  (hX:∀(w w':World),w.heap=w'.heap→laidMetH C.prog laid w→laidMetH C.prog laid w')
  (own:ownKnob C.prog.godebug=Gp) (started:os.Started) (B0:C.prog.inits.idxOf? f=Gp) (hfn:C.prog.funcs[f]?=I fn)
  (witness:∃(w:World) (tape:Tape) (i:Input),w.os=os∧(w.forCall tape i).Shaped C.prog∧i.vars=[]∧Input.okWide C.prog (w.forCall tape i) .any w.heap.size f i ∧
   ((s.pre enc C.prog fn conds En (w.forCall tape i).memory i.args∧laidMetH C.prog laid (w.forCall tape i).memory)∧sizedMet enc C.prog fn (OpenSpec.ofChange s) En (w.forCall tape i).memory i.args)∧Assume.holds {} C.prog (lone (Frame.enter C.prog f i.args .normal) [] (w.forCall tape i)))
  (zN:s.vars=[]) (eF:fn.resultTypes=#[tb]) (htb:C.prog.underlying tb=I .bool) (Ia:laidOutB C.prog=Gn) (Gs:fn.params.toList.all (rT C.prog n)=Gn)
  (Ib:fn.params.toList.all (fun t=>C.prog.readableRec t&&decide (t<C.prog.types.size))=Gn)
  (Ic:∀ds:List (DataW H),ds.length=fn.params.size→(s.fn H ds).results=[.lit (.bool Gn)]∧(s.fn H ds).args=ds∧(s.fn H ds).vars=[])
  (law:∀xs,qjo C.prog n fn.params.toList xs→IsoCall C.prog f xs (.bool Gn) En) (Ie:∀W:World,W.ShapedOpen C.prog→laidMetH C.prog laid W→Tabs C.prog W):
  ReturnsInHanded {} C os f .any (fun w args=>(s.pre enc C.prog fn conds En w args∧laidMetH C.prog laid w)∧sizedMet enc C.prog fn (OpenSpec.ofChange s) En w args) (s.post enc C.prog fn En Gn En En):=by
 refine returnsInHanded_of_calls own started B0 witness ?_
 intro w tape i _ hsh _ dN Xn Xo
 obtain⟨_,_,_,fn',Xp,_,_,_,_,hval⟩:=dN
 obtain rfl:fn'=fn:=I.inj (Xp.symm.trans hfn)
 obtain⟨⟨⟨ds,gs,before,hw,hc⟩,hx⟩,hz⟩:=Xn
 have hW:=DataW.Whole.of_heap (w':=w.forCall tape i) (by rfl) hw
 have hL:laidMetH C.prog laid (w.forCall tape i):=hX _ _ (by rfl) hx
 have ht:=Ie _ hsh hL
 suffices h:Calls C.prog f i.args (w.forCall tape i) fun e W'=>∃v,e=.returned v∧s.post enc C.prog fn' En Gn En En (w.forCall tape i) i.args v W' by
  refine h.mono fun e W' ⟨v,he,hp⟩=>?_
  subst he
  exact ChangeSpec.post_blind hp
 have hW':=hW
 obtain⟨p,q,hA,hV,rfl,EK,qZ⟩:=hW
 rw[zN]at hV
 obtain⟨rfl,rfl⟩:=trodVars_none hV
 obtain⟨Bl,xs,nA,lM⟩:=q9d Gs (fun j t v ht hv=>⟨w.heap.size,hval j t v (by simpa using ht) (by simpa using hv)⟩) hA
 have Ig:=law xs lM (Kw (w.forCall tape i)) (w.forCall tape i) i.args.toList ht (fun r o u h=>(q9f h).1) (fun r o u h=>(q9f h).2) nA
 refine(callsIn_wide.1 Ig).mono fun e W' he=>?_
 obtain⟨u,K',rfl,Ih,_,_,_,_,gq,_⟩:=he
 have hu:u=.bool Gn:=gq.dx
 subst hu
 obtain⟨s1,s2,s3⟩:=Ic ds (by simpa using Bl)
 refine⟨_,rfl,ds,[],p++[],[],p,[],by simpa using hW',?_,?_,?_,Ih.frame _,fun h=>by cases h⟩
 ·rw[Ey,s1,eF]
  exact trodAll_mk1 (shut_bool htb _)
 ·rw[Ey,s2]
  exact q4o Ih Ia Ib hA
 ·rw[Ey,s3,zN]
  rfl
end
end Go.Abs
