/- A law's row out of its call in the abstract machine, where the row lists variables of the . -/
import Derived.Test.YtoaianfagfampaaGreatDoorAbsE
import Derived.HandedShaped
import Derived.LaidMore
import Derived.Lay
import Derived.Shelf.Vars
set_option linter.all false
open Option renaming some->Eb,none->Ep
open Bool renaming false->Eg,true->En
open List renaming append_nil->Eh
namespace Go.Abs
open Go.ChangeShapes Go.WideShapes Go.ChangeAt Go.RowKit
section
variable {P:Program}{H:Type}{enc:TypeId×Value->H}{w:World}
theorem jaz:∀ {l:List (String×DataW Unit)} {ps:List MemPlace},DataW.LaidVars P w l ps->∀n d,(n,d)∈l->∃g t cs fuel p,P.globalNamed n=Eb g/\(P.globals[g]?).map (·.type)=Eb t/\w.var? P n=Eb cs/\DataW.trod (fun _=>()) P w 0 (fun _=>En) Eg fuel t cs.toList=Eb (d,p)
 | [],_,_,n,d,hm=>by cases hm
 |(m,e)::l,ps,h,n,d,hm=>by
  obtain⟨g,t,cs,fuel,p,q,Y,I,h3,h4,h5,_⟩:=h;rcases List.mem_cons.1 hm with hm|hm
  .cases hm;exact⟨g,t,cs,fuel,p,Y,I,h3,h4⟩
  .exact jaz h5 n d hm
theorem jo9 (hA:∀g,P.globalNamed pu=Eb g->g<w.heap.size/\Lib.TabIs P w pu .u64 Lib.pow10Tab)(hB:∀g,P.globalNamed Al=Eb g->g<w.heap.size/\∃m,w.cell? ⟨g,0,Ep⟩=Eb (.int .i64 m))
  (hC:∀x∈GN,∀g,P.globalNamed x.1=Eb g->g<w.heap.size/\∀j n,x.2[j]?=Eb n->w.cell? ⟨g,j,Ep⟩=Eb (.int .i64 n)):Tabs P w:=by
 intro g hg;refine⟨?_,fun h=>(hA g h).2,fun h=>(hB g h).2,fun x M h=>(hC x M g h).2⟩;rcases hg with h|h|⟨x,M,h⟩
 .exact(hA g h).1
 .exact(hB g h).1
 .exact(hC x M g h).1
theorem jvj {n g cs}(hg:P.globalNamed n=Eb g)(hv:w.var? P n=Eb cs):g<w.heap.size/\∀j v,cs[j]?=Eb v->w.cell? ⟨g,j,Ep⟩=Eb v:=by
 unfold World.var? at hv;rw[hg]at hv;simp only[Option.bind_some]at hv;split at hv
 .rename_i c t f hc;cases hv;refine⟨(Array.getElem?_eq_some_iff.1 hc).1,fun j v hj=>?_⟩;simp[World.cell?,hc,hj]
 .cases hv
theorem jjs {laid}{gt t e:TypeId}{n}(qN:P.globalNamed pu=Eb gt)
  (l4:(P.globals[gt]?).map (·.type)=Eb t) (ht:P.underlying t=Eb (.array n e)) (he:P.underlying e=Eb (.int .u64)) (hce:P.cellsOf e=1) (eS:P.cellsOf t=n)
  (hm:(pu,Lib.tabData .u64 Lib.pow10Tab)∈laid) (hl:laidMet P laid w):∀g,P.globalNamed pu=Eb g->g<w.heap.size/\Lib.TabIs P w pu .u64 Lib.pow10Tab:=by
 intro g hg;obtain⟨ps,hv,_⟩:=hl;obtain⟨g',t',cs,fuel,p,J,a2,a3,a4⟩:=jaz hv _ _ hm;obtain rfl:=Eb.inj (qN.symm.trans J);obtain rfl:=Eb.inj (qN.symm.trans hg);obtain rfl:=Eb.inj (l4.symm.trans a2);refine⟨(jvj qN a3).1,?_⟩;unfold Lib.TabIs;rw[a3,<-Lib.cells_of_tab ht he hce eS a4]
theorem jle {gl tl:TypeId}{zero}(AO:P.globalNamed Al=Eb gl)
  (da:gl<P.globals.size) (vX:((begin P (fun _ _=>0) default).world.heap[gl]?).bind Obj.row?=Eb (zero,tl)) (l5:zero.size=1) (hb:P.buildable tl=En) (hc:P.cellTypes P.depth tl=Eb [tl]) (hu:P.underlying tl=Eb (.int .i64))
  (hsh:w.ShapedOpen P):∀g,P.globalNamed Al=Eb g->g<w.heap.size/\∃m,w.cell? ⟨g,0,Ep⟩=Eb (.int .i64 m):=by
 intro g hg;obtain rfl:=Eb.inj (AO.symm.trans hg);obtain⟨m,ng⟩:=Go.Proofs.cell_of_shapedOpen_int (k:=.i64) hsh da vX l5 hb hc hu;refine⟨?_,m,ng⟩;unfold World.cell? at ng;rcases Nat.lt_or_ge gl w.heap.size with h|h
 .exact h
 .simp only[Array.getElem?_eq_none h]at ng;simp at ng
theorem TS {n:String}{aaj:Nat->Prop}(h:P.globalNamed n=Ep):∀g,P.globalNamed n=Eb g->aaj g:=fun g hg=>by rw[h]at hg;cases hg
theorem q0p {C os f fn s conds laid}(n:Nat)(tb:TypeId)
  (hX:∀(w w':World),w.heap=w'.heap->laidMetH C.prog laid w->laidMetH C.prog laid w')
  (own:ownKnob C.prog.godebug=Ep) (started:os.Started) (Ba:C.prog.inits.idxOf? f=Ep) (hfn:C.prog.funcs[f]?=Eb fn)
  (witness:∃(w:World) (tape:Tape) (i:Input),w.os=os/\(w.forCall tape i).Shaped C.prog/\i.vars=[]/\Input.okWide C.prog (w.forCall tape i) .any w.heap.size f i /\
   ((s.pre enc C.prog fn conds Eg (w.forCall tape i).memory i.args/\laidMetH C.prog laid (w.forCall tape i).memory)/\sizedMet enc C.prog fn (OpenSpec.ofChange s) Eg (w.forCall tape i).memory i.args)/\Assume.holds {} C.prog (lone (Frame.enter C.prog f i.args .normal) [] (w.forCall tape i)))
  (xX:s.vars=[]) (eC:fn.resultTypes=#[tb]) (htb:C.prog.underlying tb=Eb .bool) (IP:laidOutB C.prog=En) (G4:fn.params.toList.all (sI C.prog n)=En)
  (IQ:fn.params.toList.all (fun t=>C.prog.readableRec t&&decide (t<C.prog.types.size))=En)
  (IU:∀ds:List (DataW H),ds.length=fn.params.size->(s.fn H ds).results=[.lit (.bool En)]/\(s.fn H ds).args=ds/\(s.fn H ds).vars=[])
  (law:∀xs,qph C.prog n fn.params.toList xs->IsoCall C.prog f xs (.bool En) Eg) (IV:∀W:World,W.ShapedOpen C.prog->laidMetH C.prog laid W->Tabs C.prog W):
  ReturnsInHanded {} C os f .any (fun w args=>(s.pre enc C.prog fn conds Eg w args/\laidMetH C.prog laid w)/\sizedMet enc C.prog fn (OpenSpec.ofChange s) Eg w args) (s.post enc C.prog fn Eg En Eg Eg):=by
 refine returnsInHanded_of_calls own started Ba witness ?_;intro w tape i _ hsh _ dL TT TU;obtain⟨_,_,_,fn',TV,_,_,_,_,hval⟩:=dL;obtain rfl:fn'=fn:=Eb.inj (TV.symm.trans hfn);obtain⟨⟨⟨ds,gs,before,hw,hc⟩,M⟩,hz⟩:=TT;have hW:=DataW.Whole.of_heap (w':=w.forCall tape i) (by rfl) hw;have hL:laidMetH C.prog laid (w.forCall tape i):=hX _ _ (by rfl) M;have ht:=IV _ hsh hL
 suffices h:Calls C.prog f i.args (w.forCall tape i) fun e W'=>∃v,e=.returned v/\s.post enc C.prog fn' Eg En Eg Eg (w.forCall tape i) i.args v W' by
  refine h.mono fun e W' ⟨v,he,hp⟩=>?_;subst he;exact ChangeSpec.post_blind hp
 have hW':=hW;obtain⟨p,q,hA,hV,rfl,EW,EQ⟩:=hW;rw[xX]at hV;obtain⟨rfl,rfl⟩:=trodVars_none hV;obtain⟨As,xs,qG,l4⟩:=ZY G4 (fun j t v ht hv=>⟨w.heap.size,hval j t v (by simpa using ht) (by simpa using hv)⟩) hA;have IW:=law xs l4 (Kw (w.forCall tape i)) (w.forCall tape i) i.args.toList ht (fun r o u h=>(ZP h).1) (fun r o u h=>(ZP h).2) qG;refine(callsIn_wide.1 IW).mono fun e W' he=>?_;obtain⟨u,K',rfl,IX,_,_,_,_,gg,_⟩:=he;have hu:u=.bool En:=gg.du;subst hu;obtain⟨s1,s2,s3⟩:=IU ds (by simpa using As);refine⟨_,rfl,ds,[],p++[],[],p,[],by simpa using hW',?_,?_,?_,IX.frame _,fun h=>by cases h⟩
 .rw[Eh,s1,eC];exact trodAll_mk1 (shut_bool htb _)
 .rw[Eh,s2];exact ZZ IX IP IQ hA
 .rw[Eh,s3,xX];rfl
end
end Go.Abs
