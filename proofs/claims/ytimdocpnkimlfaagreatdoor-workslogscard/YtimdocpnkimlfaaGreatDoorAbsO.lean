/- A law's row out of its call in the abstract machine, where the row lists variables of the . -/
import Derived.Test.YtimdocpnkimlfaaGreatDoorAbsG
import Derived.HandedShaped
import Derived.LaidMore
import Derived.Lay
import Derived.Shelf.Vars
set_option linter.unusedVariables false
set_option linter.unusedSimpArgs false
open Option renaming some→I,none→Ek
open Bool renaming false→Ea,true→Ec
open List renaming append_nil→Eb
namespace Go.Abs
open Go.ChangeShapes Go.WideShapes Go.ChangeAt Go.RowKit
section
variable {P:Program}{H:Type}{enc:TypeId×Value→H}{w:World}
theorem ZN:∀ {l:List (String×DataW Unit)} {ps:List MemPlace},DataW.LaidVars P w l ps→∀n d,(n,d)∈l→∃g t cs fuel p,P.globalNamed n=I g∧(P.globals[g]?).map (·.type)=I t∧w.var? P n=I cs∧DataW.trod (fun _=>()) P w 0 (fun _=>Ec) Ea fuel t cs.toList=I (d,p)
 | [],_,_,n,d,hm=>by cases hm
 |(m,e)::l,ps,h,n,d,hm=>by
  obtain⟨g,t,cs,fuel,p,q,h1,h2,h3,h4,h5,_⟩:=h
  rcases List.mem_cons.1 hm with hm|hm
  ·cases hm
   exact⟨g,t,cs,fuel,p,h1,h2,h3,h4⟩
  ·exact ZN h5 n d hm
theorem jd6 (hA:∀g,P.globalNamed l9=I g→g<w.heap.size∧Lib.TabIs P w l9 .u64 Lib.pow10Tab)(hB:∀g,P.globalNamed tr=I g→g<w.heap.size∧∃m,w.cell? ⟨g,0,Ek⟩=I (.int .i64 m))
  (hC:∀x∈AZ,∀g,P.globalNamed x.1=I g→g<w.heap.size∧∀j n,x.2[j]?=I n→w.cell? ⟨g,j,Ek⟩=I (.int .i64 n)):Tabs P w:=by
 intro g hg
 refine⟨?_,fun h=>(hA g h).2,fun h=>(hB g h).2,fun x hx h=>(hC x hx g h).2⟩
 rcases hg with h|h|⟨x,hx,h⟩
 ·exact(hA g h).1
 ·exact(hB g h).1
 ·exact(hC x hx g h).1
theorem jli {n g cs}(hg:P.globalNamed n=I g)(hv:w.var? P n=I cs):g<w.heap.size∧∀j v,cs[j]?=I v→w.cell? ⟨g,j,Ek⟩=I v:=by
 unfold World.var? at hv
 rw[hg]at hv
 simp only[Option.bind_some]at hv
 split at hv
 ·rename_i c t f hc
  cases hv
  refine⟨(Array.getElem?_eq_some_iff.1 hc).1,fun j v hj=>?_⟩
  simp[World.cell?,hc,hj]
 ·cases hv
theorem q9x {laid}{gt t e:TypeId}{n}(nO:P.globalNamed l9=I gt)
  (kG:(P.globals[gt]?).map (·.type)=I t) (ht:P.underlying t=I (.array n e)) (he:P.underlying e=I (.int .u64)) (hce:P.cellsOf e=1) (dX:P.cellsOf t=n)
  (hm:(l9,Lib.tabData .u64 Lib.pow10Tab)∈laid) (hl:laidMet P laid w):∀g,P.globalNamed l9=I g→g<w.heap.size∧Lib.TabIs P w l9 .u64 Lib.pow10Tab:=by
 intro g hg
 obtain⟨ps,hv,_⟩:=hl
 obtain⟨g',t',cs,fuel,p,a1,a2,a3,a4⟩:=ZN hv _ _ hm
 obtain rfl:=I.inj (nO.symm.trans a1)
 obtain rfl:=I.inj (nO.symm.trans hg)
 obtain rfl:=I.inj (kG.symm.trans a2)
 refine⟨(jli nO a3).1,?_⟩
 unfold Lib.TabIs
 rw[a3,←Lib.cells_of_tab ht he hce dX a4]
theorem q7t {gl tl:TypeId}{zero}(vD:P.globalNamed tr=I gl)
  (cr:gl<P.globals.size) (sk:((begin P (fun _ _=>0) default).world.heap[gl]?).bind Obj.row?=I (zero,tl)) (kH:zero.size=1) (hb:P.buildable tl=Ec) (hc:P.cellTypes P.depth tl=I [tl]) (hu:P.underlying tl=I (.int .i64))
  (hsh:w.ShapedOpen P):∀g,P.globalNamed tr=I g→g<w.heap.size∧∃m,w.cell? ⟨g,0,Ek⟩=I (.int .i64 m):=by
 intro g hg
 obtain rfl:=I.inj (vD.symm.trans hg)
 obtain⟨m,mA⟩:=Go.Proofs.cell_of_shapedOpen_int (k:=.i64) hsh cr sk kH hb hc hu
 refine⟨?_,m,mA⟩
 unfold World.cell? at mA
 rcases Nat.lt_or_ge gl w.heap.size with h|h
 ·exact h
 ·simp only[Array.getElem?_eq_none h]at mA;simp at mA
theorem Qm {n:String}{Q:Nat→Prop}(h:P.globalNamed n=Ek):∀g,P.globalNamed n=I g→Q g:=fun g hg=>by rw[h]at hg;cases hg
theorem qrk {C os f fn s conds laid}(n:Nat)(tb:TypeId)
  (hX:∀(w w':World),w.heap=w'.heap→laidMetH C.prog laid w→laidMetH C.prog laid w')
  (own:ownKnob C.prog.godebug=Ek) (started:os.Started) (vT:C.prog.inits.idxOf? f=Ek) (hfn:C.prog.funcs[f]?=I fn)
  (witness:∃(w:World) (tape:Tape) (i:Input),w.os=os∧(w.forCall tape i).Shaped C.prog∧i.vars=[]∧Input.okWide C.prog (w.forCall tape i) .any w.heap.size f i ∧
   ((s.pre enc C.prog fn conds Ea (w.forCall tape i).memory i.args∧laidMetH C.prog laid (w.forCall tape i).memory)∧sizedMet enc C.prog fn (OpenSpec.ofChange s) Ea (w.forCall tape i).memory i.args)∧Assume.holds {} C.prog (lone (Frame.enter C.prog f i.args .normal) [] (w.forCall tape i)))
  (tO:s.vars=[]) (dI:fn.resultTypes=#[tb]) (htb:C.prog.underlying tb=I .bool) (EA:laidOutB C.prog=Ec) (CX:fn.params.toList.all (pg C.prog n)=Ec)
  (EB:fn.params.toList.all (fun t=>C.prog.readableRec t&&decide (t<C.prog.types.size))=Ec)
  (EC:∀ds:List (DataW H),ds.length=fn.params.size→(s.fn H ds).results=[.lit (.bool Ec)]∧(s.fn H ds).args=ds∧(s.fn H ds).vars=[])
  (law:∀xs,qkq C.prog n fn.params.toList xs→IsoCall C.prog f xs (.bool Ec) Ea) (ED:∀W:World,W.ShapedOpen C.prog→laidMetH C.prog laid W→Tabs C.prog W):
  ReturnsInHanded {} C os f .any (fun w args=>(s.pre enc C.prog fn conds Ea w args∧laidMetH C.prog laid w)∧sizedMet enc C.prog fn (OpenSpec.ofChange s) Ea w args) (s.post enc C.prog fn Ea Ec Ea Ea):=by
 refine returnsInHanded_of_calls own started vT witness ?_
 intro w tape i _ hsh _ kE Qn Qo
 obtain⟨_,_,_,ZO,Qp,_,_,_,_,hval⟩:=kE
 obtain rfl:ZO=fn:=I.inj (Qp.symm.trans hfn)
 obtain⟨⟨⟨ds,gs,before,hw,hc⟩,hx⟩,hz⟩:=Qn
 have hW:=DataW.Whole.of_heap (w':=w.forCall tape i) (by rfl) hw
 have hL:laidMetH C.prog laid (w.forCall tape i):=hX _ _ (by rfl) hx
 have ht:=ED _ hsh hL
 suffices h:Calls C.prog f i.args (w.forCall tape i) fun e W'=>∃v,e=.returned v∧s.post enc C.prog ZO Ea Ec Ea Ea (w.forCall tape i) i.args v W' by
  refine h.mono fun e W' ⟨v,he,hp⟩=>?_
  subst he
  exact ChangeSpec.post_blind hp
 have hW':=hW
 obtain⟨p,q,hA,hV,rfl,Bf,oF⟩:=hW
 rw[tO]at hV
 obtain⟨rfl,rfl⟩:=trodVars_none hV
 obtain⟨N4,xs,nH,kG⟩:=Zd CX (fun j t v ht hv=>⟨w.heap.size,hval j t v (by simpa using ht) (by simpa using hv)⟩) hA
 have EE:=law xs kG (Kw (w.forCall tape i)) (w.forCall tape i) i.args.toList ht (fun r o u h=>(Y3 h).1) (fun r o u h=>(Y3 h).2) nH
 refine(callsIn_wide.1 EE).mono fun e W' he=>?_
 obtain⟨u,K',rfl,EF,_,_,_,_,fq,_⟩:=he
 have hu:u=.bool Ec:=fq.cH
 subst hu
 obtain⟨s1,s2,s3⟩:=EC ds (by simpa using N4)
 refine⟨_,rfl,ds,[],p++[],[],p,[],by simpa using hW',?_,?_,?_,EF.frame _,fun h=>by cases h⟩
 ·rw[Eb,s1,dI]
  exact trodAll_mk1 (shut_bool htb _)
 ·rw[Eb,s2]
  exact Ze EF EA EB hA
 ·rw[Eb,s3,tO]
  rfl
end
end Go.Abs
