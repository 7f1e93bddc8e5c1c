/- A law's row out of its call in the abstract machine, where the row lists variables of the . -/
import Derived.Test.YtlhfdilpecnjeaaGreatDoorAbsE
import Derived.HandedShaped
import Derived.LaidMore
import Derived.Lay
import Derived.Shelf.Vars
set_option linter.all false
open Option renaming some->En,none->Ha
open Bool renaming false->Ga,true->Gd
open List renaming append_nil->Gb
namespace Go.Abs
open Go.ChangeShapes Go.WideShapes Go.ChangeAt Go.RowKit
section
variable {P:Program}{H:Type}{enc:TypeId×Value->H}{w:World}
theorem jd1:∀ {l:List (String×DataW Unit)} {ps:List MemPlace},DataW.LaidVars P w l ps->∀n d,(n,d)∈l->∃g t cs fuel p,P.globalNamed n=En g/\(P.globals[g]?).map (·.type)=En t/\w.var? P n=En cs/\DataW.trod (fun _=>()) P w 0 (fun _=>Gd) Ga fuel t cs.toList=En (d,p)
 | [],_,_,n,d,hm=>by cases hm
 |(m,e)::l,ps,h,n,d,hm=>by
  obtain⟨g,t,cs,fuel,p,q,Y,I,h3,h4,h5,_⟩:=h;rcases List.mem_cons.1 hm with hm|hm
  .cases hm;exact⟨g,t,cs,fuel,p,Y,I,h3,h4⟩
  .exact jd1 h5 n d hm
theorem jtz (hA:∀g,P.globalNamed qH=En g->g<w.heap.size/\Lib.TabIs P w qH .u64 Lib.pow10Tab)(hB:∀g,P.globalNamed A2=En g->g<w.heap.size/\∃m,w.cell? ⟨g,0,Ha⟩=En (.int .i64 m))
  (hC:∀x∈H8,∀g,P.globalNamed x.1=En g->g<w.heap.size/\∀j n,x.2[j]?=En n->w.cell? ⟨g,j,Ha⟩=En (.int .i64 n)):Tabs P w:=by
 intro g hg;refine⟨?_,fun h=>(hA g h).2,fun h=>(hB g h).2,fun x M h=>(hC x M g h).2⟩;rcases hg with h|h|⟨x,M,h⟩
 .exact(hA g h).1
 .exact(hB g h).1
 .exact(hC x M g h).1
theorem j0a {n g cs}(hg:P.globalNamed n=En g)(hv:w.var? P n=En cs):g<w.heap.size/\∀j v,cs[j]?=En v->w.cell? ⟨g,j,Ha⟩=En v:=by
 unfold World.var? at hv;rw[hg]at hv;simp only[Option.bind_some]at hv;split at hv
 .rename_i c t f hc;cases hv;refine⟨(Array.getElem?_eq_some_iff.1 hc).1,fun j v hj=>?_⟩;simp[World.cell?,hc,hj]
 .cases hv
theorem jmq {laid}{gt t e:TypeId}{n}(rZ:P.globalNamed qH=En gt)
  (mY:(P.globals[gt]?).map (·.type)=En t) (ht:P.underlying t=En (.array n e)) (he:P.underlying e=En (.int .u64)) (hce:P.cellsOf e=1) (eX:P.cellsOf t=n)
  (hm:(qH,Lib.tabData .u64 Lib.pow10Tab)∈laid) (hl:laidMet P laid w):∀g,P.globalNamed qH=En g->g<w.heap.size/\Lib.TabIs P w qH .u64 Lib.pow10Tab:=by
 intro g hg;obtain⟨ps,hv,_⟩:=hl;obtain⟨g',t',cs,fuel,p,J,a2,a3,a4⟩:=jd1 hv _ _ hm;obtain rfl:=En.inj (rZ.symm.trans J);obtain rfl:=En.inj (rZ.symm.trans hg);obtain rfl:=En.inj (mY.symm.trans a2);refine⟨(j0a rZ a3).1,?_⟩;unfold Lib.TabIs;rw[a3,<-Lib.cells_of_tab ht he hce eX a4]
theorem jq9 {gl tl:TypeId}{zero}(Bq:P.globalNamed A2=En gl)
  (dj:gl<P.globals.size) (xn:((begin P (fun _ _=>0) default).world.heap[gl]?).bind Obj.row?=En (zero,tl)) (mZ:zero.size=1) (hb:P.buildable tl=Gd) (hc:P.cellTypes P.depth tl=En [tl]) (hu:P.underlying tl=En (.int .i64))
  (hsh:w.ShapedOpen P):∀g,P.globalNamed A2=En g->g<w.heap.size/\∃m,w.cell? ⟨g,0,Ha⟩=En (.int .i64 m):=by
 intro g hg;obtain rfl:=En.inj (Bq.symm.trans hg);obtain⟨m,nT⟩:=Go.Proofs.cell_of_shapedOpen_int (k:=.i64) hsh dj xn mZ hb hc hu;refine⟨?_,m,nT⟩;unfold World.cell? at nT;rcases Nat.lt_or_ge gl w.heap.size with h|h
 .exact h
 .simp only[Array.getElem?_eq_none h]at nT;simp at nT
theorem WE {n:String}{aaj:Nat->Prop}(h:P.globalNamed n=Ha):∀g,P.globalNamed n=En g->aaj g:=fun g hg=>by rw[h]at hg;cases hg
theorem qzt {C os f fn s conds laid}(n:Nat)(tb:TypeId)
  (hX:∀(w w':World),w.heap=w'.heap->laidMetH C.prog laid w->laidMetH C.prog laid w')
  (own:ownKnob C.prog.godebug=Ha) (started:os.Started) (BK:C.prog.inits.idxOf? f=Ha) (hfn:C.prog.funcs[f]?=En fn)
  (witness:∃(w:World) (tape:Tape) (i:Input),w.os=os/\(w.forCall tape i).Shaped C.prog/\i.vars=[]/\Input.okWide C.prog (w.forCall tape i) .any w.heap.size f i /\
   ((s.pre enc C.prog fn conds Ga (w.forCall tape i).memory i.args/\laidMetH C.prog laid (w.forCall tape i).memory)/\sizedMet enc C.prog fn (OpenSpec.ofChange s) Ga (w.forCall tape i).memory i.args)/\Assume.holds {} C.prog (lone (Frame.enter C.prog f i.args .normal) [] (w.forCall tape i)))
  (zL:s.vars=[]) (eJ:fn.resultTypes=#[tb]) (htb:C.prog.underlying tb=En .bool) (JX:laidOutB C.prog=Gd) (Io:fn.params.toList.all (tF C.prog n)=Gd)
  (JY:fn.params.toList.all (fun t=>C.prog.readableRec t&&decide (t<C.prog.types.size))=Gd)
  (JZ:∀ds:List (DataW H),ds.length=fn.params.size->(s.fn H ds).results=[.lit (.bool Gd)]/\(s.fn H ds).args=ds/\(s.fn H ds).vars=[])
  (law:∀xs,qqb C.prog n fn.params.toList xs->IsoCall C.prog f xs (.bool Gd) Ga) (J0:∀W:World,W.ShapedOpen C.prog->laidMetH C.prog laid W->Tabs C.prog W):
  ReturnsInHanded {} C os f .any (fun w args=>(s.pre enc C.prog fn conds Ga w args/\laidMetH C.prog laid w)/\sizedMet enc C.prog fn (OpenSpec.ofChange s) Ga w args) (s.post enc C.prog fn Ga Gd Ga Ga):=by
 refine returnsInHanded_of_calls own started BK witness ?_;intro w tape i _ hsh _ dG WG WH;obtain⟨_,_,_,fn',WI,_,_,_,_,hval⟩:=dG;obtain rfl:fn'=fn:=En.inj (WI.symm.trans hfn);obtain⟨⟨⟨ds,gs,before,hw,hc⟩,M⟩,hz⟩:=WG;have hW:=DataW.Whole.of_heap (w':=w.forCall tape i) (by rfl) hw;have hL:laidMetH C.prog laid (w.forCall tape i):=hX _ _ (by rfl) M;have ht:=J0 _ hsh hL
 suffices h:Calls C.prog f i.args (w.forCall tape i) fun e W'=>∃v,e=.returned v/\s.post enc C.prog fn' Ga Gd Ga Ga (w.forCall tape i) i.args v W' by
  refine h.mono fun e W' ⟨v,he,hp⟩=>?_;subst he;exact ChangeSpec.post_blind hp
 have hW':=hW;obtain⟨p,q,hA,hV,rfl,FW,FQ⟩:=hW;rw[zL]at hV;obtain⟨rfl,rfl⟩:=trodVars_none hV;obtain⟨A8,xs,rS,mY⟩:=jdk Io (fun j t v ht hv=>⟨w.heap.size,hval j t v (by simpa using ht) (by simpa using hv)⟩) hA;have J1:=law xs mY (Kw (w.forCall tape i)) (w.forCall tape i) i.args.toList ht (fun r o u h=>(jcb h).1) (fun r o u h=>(jcb h).2) rS;refine(callsIn_wide.1 J1).mono fun e W' he=>?_;obtain⟨u,K',rfl,J2,_,_,_,_,gJ,_⟩:=he;have hu:u=.bool Gd:=gJ.dx;subst hu;obtain⟨s1,s2,s3⟩:=JZ ds (by simpa using A8);refine⟨_,rfl,ds,[],p++[],[],p,[],by simpa using hW',?_,?_,?_,J2.frame _,fun h=>by cases h⟩
 .rw[Gb,s1,eJ];exact trodAll_mk1 (shut_bool htb _)
 .rw[Gb,s2];exact q9b J2 JX JY hA
 .rw[Gb,s3,zL];rfl
end
end Go.Abs
