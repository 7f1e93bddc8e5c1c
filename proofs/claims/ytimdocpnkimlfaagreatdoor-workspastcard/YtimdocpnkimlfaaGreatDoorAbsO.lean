/- A law's row out of its call in the abstract machine, where the row lists variables of the . -/
import Derived.Test.YtimdocpnkimlfaaGreatDoorAbsG
import Derived.HandedShaped
import Derived.LaidMore
import Derived.Lay
import Derived.Shelf.Vars
set_option linter.unusedVariables false
set_option linter.unusedSimpArgs false
open Option renaming some→I,none→Gd
open Bool renaming false→En,true→Gb
open List renaming append_nil→Ga
namespace Go.Abs
open Go.ChangeShapes Go.WideShapes Go.ChangeAt Go.RowKit
section
variable {P:Program}{H:Type}{enc:TypeId×Value→H}{w:World}
theorem q7u:∀ {l:List (String×DataW Unit)} {ps:List MemPlace},DataW.LaidVars P w l ps→∀n d,(n,d)∈l→∃g t cs fuel p,P.globalNamed n=I g∧(P.globals[g]?).map (·.type)=I t∧w.var? P n=I cs∧DataW.trod (fun _=>()) P w 0 (fun _=>Gb) En fuel t cs.toList=I (d,p)
 | [],_,_,n,d,hm=>by cases hm
 |(m,e)::l,ps,h,n,d,hm=>by
  obtain⟨g,t,cs,fuel,p,q,h1,h2,h3,h4,h5,_⟩:=h
  rcases List.mem_cons.1 hm with hm|hm
  ·cases hm
   exact⟨g,t,cs,fuel,p,h1,h2,h3,h4⟩
  ·exact q7u h5 n d hm
theorem jnm (hA:∀g,P.globalNamed nX=I g→g<w.heap.size∧Lib.TabIs P w nX .u64 Lib.pow10Tab)(hB:∀g,P.globalNamed xZ=I g→g<w.heap.size∧∃m,w.cell? ⟨g,0,Gd⟩=I (.int .i64 m))
  (hC:∀x∈Du,∀g,P.globalNamed x.1=I g→g<w.heap.size∧∀j n,x.2[j]?=I n→w.cell? ⟨g,j,Gd⟩=I (.int .i64 n)):Tabs P w:=by
 intro g hg
 refine⟨?_,fun h=>(hA g h).2,fun h=>(hB g h).2,fun x hx h=>(hC x hx g h).2⟩
 rcases hg with h|h|⟨x,hx,h⟩
 ·exact(hA g h).1
 ·exact(hB g h).1
 ·exact(hC x hx g h).1
theorem jwl {n g cs}(hg:P.globalNamed n=I g)(hv:w.var? P n=I cs):g<w.heap.size∧∀j v,cs[j]?=I v→w.cell? ⟨g,j,Gd⟩=I v:=by
 unfold World.var? at hv
 rw[hg]at hv
 simp only[Option.bind_some]at hv
 split at hv
 ·rename_i c t f hc
  cases hv
  refine⟨(Array.getElem?_eq_some_iff.1 hc).1,fun j v hj=>?_⟩
  simp[World.cell?,hc,hj]
 ·cases hv
theorem jgs {laid}{gt t e:TypeId}{n}(pI:P.globalNamed nX=I gt)
  (lB:(P.globals[gt]?).map (·.type)=I t) (ht:P.underlying t=I (.array n e)) (he:P.underlying e=I (.int .u64)) (hce:P.cellsOf e=1) (eV:P.cellsOf t=n)
  (hm:(nX,Lib.tabData .u64 Lib.pow10Tab)∈laid) (hl:laidMet P laid w):∀g,P.globalNamed nX=I g→g<w.heap.size∧Lib.TabIs P w nX .u64 Lib.pow10Tab:=by
 intro g hg
 obtain⟨ps,hv,_⟩:=hl
 obtain⟨g',t',cs,fuel,p,a1,a2,a3,a4⟩:=q7u hv _ _ hm
 obtain rfl:=I.inj (pI.symm.trans a1)
 obtain rfl:=I.inj (pI.symm.trans hg)
 obtain rfl:=I.inj (lB.symm.trans a2)
 refine⟨(jwl pI a3).1,?_⟩
 unfold Lib.TabIs
 rw[a3,←Lib.cells_of_tab ht he hce eV a4]
theorem jh8 {gl tl:TypeId}{zero}(AX:P.globalNamed xZ=I gl)
  (da:gl<P.globals.size) (pK:((begin P (fun _ _=>0) default).world.heap[gl]?).bind Obj.row?=I (zero,tl)) (lC:zero.size=1) (hb:P.buildable tl=Gb) (hc:P.cellTypes P.depth tl=I [tl]) (hu:P.underlying tl=I (.int .i64))
  (hsh:w.ShapedOpen P):∀g,P.globalNamed xZ=I g→g<w.heap.size∧∃m,w.cell? ⟨g,0,Gd⟩=I (.int .i64 m):=by
 intro g hg
 obtain rfl:=I.inj (AX.symm.trans hg)
 obtain⟨m,mA⟩:=Go.Proofs.cell_of_shapedOpen_int (k:=.i64) hsh da pK lC hb hc hu
 refine⟨?_,m,mA⟩
 unfold World.cell? at mA
 rcases Nat.lt_or_ge gl w.heap.size with h|h
 ·exact h
 ·simp only[Array.getElem?_eq_none h]at mA;simp at mA
theorem Tl {n:String}{Q:Nat→Prop}(h:P.globalNamed n=Gd):∀g,P.globalNamed n=I g→Q g:=fun g hg=>by rw[h]at hg;cases hg
theorem qwj {C os f fn s conds laid}(n:Nat)(tb:TypeId)
  (hX:∀(w w':World),w.heap=w'.heap→laidMetH C.prog laid w→laidMetH C.prog laid w')
  (own:ownKnob C.prog.godebug=Gd) (started:os.Started) (Bf:C.prog.inits.idxOf? f=Gd) (hfn:C.prog.funcs[f]?=I fn)
  (witness:∃(w:World) (tape:Tape) (i:Input),w.os=os∧(w.forCall tape i).Shaped C.prog∧i.vars=[]∧Input.okWide C.prog (w.forCall tape i) .any w.heap.size f i ∧
   ((s.pre enc C.prog fn conds En (w.forCall tape i).memory i.args∧laidMetH C.prog laid (w.forCall tape i).memory)∧sizedMet enc C.prog fn (OpenSpec.ofChange s) En (w.forCall tape i).memory i.args)∧Assume.holds {} C.prog (lone (Frame.enter C.prog f i.args .normal) [] (w.forCall tape i)))
  (yR:s.vars=[]) (eL:fn.resultTypes=#[tb]) (htb:C.prog.underlying tb=I .bool) (G7:laidOutB C.prog=Gb) (Fu:fn.params.toList.all (rJ C.prog n)=Gb)
  (G8:fn.params.toList.all (fun t=>C.prog.readableRec t&&decide (t<C.prog.types.size))=Gb)
  (G9:∀ds:List (DataW H),ds.length=fn.params.size→(s.fn H ds).results=[.lit (.bool Gb)]∧(s.fn H ds).args=ds∧(s.fn H ds).vars=[])
  (law:∀xs,qn9 C.prog n fn.params.toList xs→IsoCall C.prog f xs (.bool Gb) En) (Hc:∀W:World,W.ShapedOpen C.prog→laidMetH C.prog laid W→Tabs C.prog W):
  ReturnsInHanded {} C os f .any (fun w args=>(s.pre enc C.prog fn conds En w args∧laidMetH C.prog laid w)∧sizedMet enc C.prog fn (OpenSpec.ofChange s) En w args) (s.post enc C.prog fn En Gb En En):=by
 refine returnsInHanded_of_calls own started Bf witness ?_
 intro w tape i _ hsh _ dQ Tm Tn
 obtain⟨_,_,_,fn',Tp,_,_,_,_,hval⟩:=dQ
 obtain rfl:fn'=fn:=I.inj (Tp.symm.trans hfn)
 obtain⟨⟨⟨ds,gs,before,hw,hc⟩,hx⟩,hz⟩:=Tm
 have hW:=DataW.Whole.of_heap (w':=w.forCall tape i) (by rfl) hw
 have hL:laidMetH C.prog laid (w.forCall tape i):=hX _ _ (by rfl) hx
 have ht:=Hc _ hsh hL
 suffices h:Calls C.prog f i.args (w.forCall tape i) fun e W'=>∃v,e=.returned v∧s.post enc C.prog fn' En Gb En En (w.forCall tape i) i.args v W' by
  refine h.mono fun e W' ⟨v,he,hp⟩=>?_
  subst he
  exact ChangeSpec.post_blind hp
 have hW':=hW
 obtain⟨p,q,hA,hV,rfl,DI,qQ⟩:=hW
 rw[yR]at hV
 obtain⟨rfl,rfl⟩:=trodVars_none hV
 obtain⟨Ay,xs,mY,lB⟩:=q8e Fu (fun j t v ht hv=>⟨w.heap.size,hval j t v (by simpa using ht) (by simpa using hv)⟩) hA
 have Hd:=law xs lB (Kw (w.forCall tape i)) (w.forCall tape i) i.args.toList ht (fun r o u h=>(q7l h).1) (fun r o u h=>(q7l h).2) mY
 refine(callsIn_wide.1 Hd).mono fun e W' he=>?_
 obtain⟨u,K',rfl,He,_,_,_,_,gh,_⟩:=he
 have hu:u=.bool Gb:=gh.dy
 subst hu
 obtain⟨s1,s2,s3⟩:=G9 ds (by simpa using Ay)
 refine⟨_,rfl,ds,[],p++[],[],p,[],by simpa using hW',?_,?_,?_,He.frame _,fun h=>by cases h⟩
 ·rw[Ga,s1,eL]
  exact trodAll_mk1 (shut_bool htb _)
 ·rw[Ga,s2]
  exact q2t He G7 G8 hA
 ·rw[Ga,s3,yR]
  rfl
end
end Go.Abs
