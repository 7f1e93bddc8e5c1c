/- A law's row out of its call in the abstract machine, where the row lists variables of the . -/
import Derived.Test.YtlhfdilpecnjeaaGreatDoorAbsG
import Derived.HandedShaped
import Derived.LaidMore
import Derived.Lay
import Derived.Shelf.Vars
set_option linter.unusedVariables false
set_option linter.unusedSimpArgs false
open Option renaming some->En,none->Hc
open Bool renaming false->E6,true->Hb
open List renaming append_nil->Ha
namespace Go.Abs
open Go.ChangeShapes Go.WideShapes Go.ChangeAt Go.RowKit
section
variable {P:Program}{H:Type}{enc:TypeId×Value->H}{w:World}
theorem jc2:∀ {l:List (String×DataW Unit)} {ps:List MemPlace},DataW.LaidVars P w l ps->∀n d,(n,d)∈l->∃g t cs fuel p,P.globalNamed n=En g/\(P.globals[g]?).map (·.type)=En t/\w.var? P n=En cs/\DataW.trod (fun _=>()) P w 0 (fun _=>Hb) E6 fuel t cs.toList=En (d,p)
 | [],_,_,n,d,hm=>by cases hm
 |(m,e)::l,ps,h,n,d,hm=>by
  obtain⟨g,t,cs,fuel,p,q,Y,I,h3,h4,h5,_⟩:=h;rcases List.mem_cons.1 hm with hm|hm
  .cases hm;exact⟨g,t,cs,fuel,p,Y,I,h3,h4⟩
  .exact jc2 h5 n d hm
theorem jut (hA:∀g,P.globalNamed pI=En g->g<w.heap.size/\Lib.TabIs P w pI .u64 Lib.pow10Tab)(hB:∀g,P.globalNamed AP=En g->g<w.heap.size/\∃m,w.cell? ⟨g,0,Hc⟩=En (.int .i64 m))
  (hC:∀x∈Hz,∀g,P.globalNamed x.1=En g->g<w.heap.size/\∀j n,x.2[j]?=En n->w.cell? ⟨g,j,Hc⟩=En (.int .i64 n)):Tabs P w:=by
 intro g hg;refine⟨?_,fun h=>(hA g h).2,fun h=>(hB g h).2,fun x M h=>(hC x M g h).2⟩;rcases hg with h|h|⟨x,M,h⟩
 .exact(hA g h).1
 .exact(hB g h).1
 .exact(hC x M g h).1
theorem jye {n g cs}(hg:P.globalNamed n=En g)(hv:w.var? P n=En cs):g<w.heap.size/\∀j v,cs[j]?=En v->w.cell? ⟨g,j,Hc⟩=En v:=by
 unfold World.var? at hv;rw[hg]at hv;simp only[Option.bind_some]at hv;split at hv
 .rename_i c t f hc;cases hv;refine⟨(Array.getElem?_eq_some_iff.1 hc).1,fun j v hj=>?_⟩;simp[World.cell?,hc,hj]
 .cases hv
theorem jo3 {laid}{gt t e:TypeId}{n}(oZ:P.globalNamed pI=En gt)
  (mK:(P.globals[gt]?).map (·.type)=En t) (ht:P.underlying t=En (.array n e)) (he:P.underlying e=En (.int .u64)) (hce:P.cellsOf e=1) (eQ:P.cellsOf t=n)
  (hm:(pI,Lib.tabData .u64 Lib.pow10Tab)∈laid) (hl:laidMet P laid w):∀g,P.globalNamed pI=En g->g<w.heap.size/\Lib.TabIs P w pI .u64 Lib.pow10Tab:=by
 intro g hg;obtain⟨ps,hv,_⟩:=hl;obtain⟨g',t',cs,fuel,p,J,a2,a3,a4⟩:=jc2 hv _ _ hm;obtain rfl:=En.inj (oZ.symm.trans J);obtain rfl:=En.inj (oZ.symm.trans hg);obtain rfl:=En.inj (mK.symm.trans a2);refine⟨(jye oZ a3).1,?_⟩;unfold Lib.TabIs;rw[a3,<-Lib.cells_of_tab ht he hce eQ a4]
theorem jos {gl tl:TypeId}{zero}(Bg:P.globalNamed AP=En gl)
  (db:gl<P.globals.size) (wM:((begin P (fun _ _=>0) default).world.heap[gl]?).bind Obj.row?=En (zero,tl)) (gh:zero.size=1) (hb:P.buildable tl=Hb) (hc:P.cellTypes P.depth tl=En [tl]) (hu:P.underlying tl=En (.int .i64))
  (hsh:w.ShapedOpen P):∀g,P.globalNamed AP=En g->g<w.heap.size/\∃m,w.cell? ⟨g,0,Hc⟩=En (.int .i64 m):=by
 intro g hg;obtain rfl:=En.inj (Bg.symm.trans hg);obtain⟨m,nw⟩:=Go.Proofs.cell_of_shapedOpen_int (k:=.i64) hsh db wM gh hb hc hu;refine⟨?_,m,nw⟩;unfold World.cell? at nw;rcases Nat.lt_or_ge gl w.heap.size with h|h
 .exact h
 .simp only[Array.getElem?_eq_none h]at nw;simp at nw
theorem VF {n:String}{aaj:Nat->Prop}(h:P.globalNamed n=Hc):∀g,P.globalNamed n=En g->aaj g:=fun g hg=>by rw[h]at hg;cases hg
theorem qxz {C os f fn s conds laid}(n:Nat)(tb:TypeId)
  (hX:∀(w w':World),w.heap=w'.heap->laidMetH C.prog laid w->laidMetH C.prog laid w')
  (own:ownKnob C.prog.godebug=Hc) (started:os.Started) (Bz:C.prog.inits.idxOf? f=Hc) (hfn:C.prog.funcs[f]?=En fn)
  (witness:∃(w:World) (tape:Tape) (i:Input),w.os=os/\(w.forCall tape i).Shaped C.prog/\i.vars=[]/\Input.okWide C.prog (w.forCall tape i) .any w.heap.size f i /\
   ((s.pre enc C.prog fn conds E6 (w.forCall tape i).memory i.args/\laidMetH C.prog laid (w.forCall tape i).memory)/\sizedMet enc C.prog fn (OpenSpec.ofChange s) E6 (w.forCall tape i).memory i.args)/\Assume.holds {} C.prog (lone (Frame.enter C.prog f i.args .normal) [] (w.forCall tape i)))
  (yI:s.vars=[]) (eE:fn.resultTypes=#[tb]) (htb:C.prog.underlying tb=En .bool) (Jv:laidOutB C.prog=Hb) (HP:fn.params.toList.all (s9 C.prog n)=Hb)
  (Jw:fn.params.toList.all (fun t=>C.prog.readableRec t&&decide (t<C.prog.types.size))=Hb)
  (Jx:∀ds:List (DataW H),ds.length=fn.params.size->(s.fn H ds).results=[.lit (.bool Hb)]/\(s.fn H ds).args=ds/\(s.fn H ds).vars=[])
  (law:∀xs,qrl C.prog n fn.params.toList xs->IsoCall C.prog f xs (.bool Hb) E6) (Jy:∀W:World,W.ShapedOpen C.prog->laidMetH C.prog laid W->Tabs C.prog W):
  ReturnsInHanded {} C os f .any (fun w args=>(s.pre enc C.prog fn conds E6 w args/\laidMetH C.prog laid w)/\sizedMet enc C.prog fn (OpenSpec.ofChange s) E6 w args) (s.post enc C.prog fn E6 Hb E6 E6):=by
 refine returnsInHanded_of_calls own started Bz witness ?_;intro w tape i _ hsh _ dF VG VH;obtain⟨_,_,_,fn',VI,_,_,_,_,hval⟩:=dF;obtain rfl:fn'=fn:=En.inj (VI.symm.trans hfn);obtain⟨⟨⟨ds,gs,before,hw,hc⟩,M⟩,hz⟩:=VG;have hW:=DataW.Whole.of_heap (w':=w.forCall tape i) (by rfl) hw;have hL:laidMetH C.prog laid (w.forCall tape i):=hX _ _ (by rfl) M;have ht:=Jy _ hsh hL
 suffices h:Calls C.prog f i.args (w.forCall tape i) fun e W'=>∃v,e=.returned v/\s.post enc C.prog fn' E6 Hb E6 E6 (w.forCall tape i) i.args v W' by
  refine h.mono fun e W' ⟨v,he,hp⟩=>?_;subst he;exact ChangeSpec.post_blind hp
 have hW':=hW;obtain⟨p,q,hA,hV,rfl,FH,FB⟩:=hW;rw[yI]at hV;obtain⟨rfl,rfl⟩:=trodVars_none hV;obtain⟨AX,xs,rj,mK⟩:=jct HP (fun j t v ht hv=>⟨w.heap.size,hval j t v (by simpa using ht) (by simpa using hv)⟩) hA;have Jz:=law xs mK (Kw (w.forCall tape i)) (w.forCall tape i) i.args.toList ht (fun r o u h=>(jcg h).1) (fun r o u h=>(jcg h).2) rj;refine(callsIn_wide.1 Jz).mono fun e W' he=>?_;obtain⟨u,K',rfl,JA,_,_,_,_,gi,_⟩:=he;have hu:u=.bool Hb:=gi.dq;subst hu;obtain⟨s1,s2,s3⟩:=Jx ds (by simpa using AX);refine⟨_,rfl,ds,[],p++[],[],p,[],by simpa using hW',?_,?_,?_,JA.frame _,fun h=>by cases h⟩
 .rw[Ha,s1,eE];exact trodAll_mk1 (shut_bool htb _)
 .rw[Ha,s2];exact q85 JA Jv Jw hA
 .rw[Ha,s3,yI];rfl
end
end Go.Abs
