/- Chapter 10, plain. -/
import Derived.Test.YtlhfdilpecnjeaaGreatDoorSH
set_option linter.unusedVariables false
set_option linter.unusedSimpArgs false
set_option maxRecDepth 100000
set_option maxHeartbeats 4000000
open List renaming length_append->En,length_cons->E6,mem_cons->Ha
namespace Go.Z
open Go Go.Abs Go.W
structure ShE (e:GEv):Prop where
 k:e.kind.length<=40
 n:(e.names.getD []).length<=6
 v:(e.values.getD []).length<=8
 s:∀x∈e.names.getD [],x.length<=40
theorem C8:∀ {l:List aj},(∀w∈l,w.length<=40)->(Lib.joinTail [32] l).length<=l.length*41
 | [],_=>by simp[Lib.joinTail]
 |x::l,h=>by
  have Y:=h x (List.mem_cons_self ..);have I:=C8 fun w hw=>h w (List.mem_cons_of_mem _ hw);rw[GZ];simp only[En,E6,List.length_nil];omega
theorem Hq {v:Int}(h0:0<=v)(Y:v<1000000000):(Lib.itoa v).length<=40:=by
 rw[Ac h0];have:=GY 8 v.toNat (by omega);omega
theorem q3u {e:GEv}(s:ShE e)(h:qz e.er=0):Y3 e/\(zh e.er).length<=900000:=by
 obtain⟨Y,I,_,_,h5,_⟩:=tS h;have h5:∀v∈e.values.getD [],0<=v/\v<1000000000:=fun v hv=>⟨(h5 v hv).1,by have:=(h5 v hv).2;omega⟩;have Y:1<=e.number:=Y;have I:e.number<=1000:=I;have ha:=s.n;have hb:=s.v;have hk:=s.k
 have hlb:(zp e.er).length<=10000:=by
  rw[PU];have l1:=C8 (l:=e.names.getD []) s.s
  have l2:=C8 (l:=(e.values.getD []).map Lib.itoa) fun w hw=>by
   obtain⟨v,hv,rfl⟩:=List.mem_map.1 hw;exact Hq (h5 v hv).1 (h5 v hv).2
  have l3:=Hq (v:=e.number) (by omega) (by omega);rw[List.length_map]at l2;simp only[En,List.length_singleton];show(Lib.itoa e.number).length+1+e.kind.length+(Lib.joinTail [32] (e.names.getD [])).length+(Lib.joinTail [32] ((e.values.getD []).map Lib.itoa)).length<=10000;omega
 refine⟨⟨⟨by omega,by omega⟩,h5,by omega,by omega,by omega⟩,?_⟩;have:=C9 e.er;omega
theorem jg2:∀ {l:List cf} {e},e∈l->(zh e).length<=(ja l).length
 |x::l,e,h=>by
  rw[ja,En,E6];rcases Ha.1 h with rfl|h
  .omega
  .have:=jg2 h;omega
theorem q4q:∀ {l:List cf} {k e},iW k l->e∈l->qz e=0
 |x::l,k,e,h,hm=>by
  rcases Ha.1 hm with rfl|hm
  .exact h.1
  .exact q4q h.2.2 hm
theorem jr6 {s:aj}(G:s.length<=90000){e:GEv}(h:e.er∈(zo s).1):Y3 e:=by
 obtain⟨hc,Y,I⟩:=q9r s;have hk:=q4q hc h;have Q:=jg2 h;obtain⟨l,q1,q2,q3,t,q4,q5⟩:=Y8 (s:=s) (a:=0) (out:=[]);have q1':(zo s).1=l:=q1;have q6:=congrArg List.length q4;simp only[En]at q6;rw[q1']at Q;have:=C9 e.er;obtain⟨n1,n2,⟨f,f1,f2,ng⟩,_,n5,_⟩:=tS hk;have hf:=Y4 f1;have f2:(e.names.getD []).length=f.1:=f2;have ng:(e.values.getD []).length=f.2:=ng;have n1:1<=e.number:=n1;have n2:e.number<=1000:=n2;exact⟨⟨by omega,by omega⟩,fun v hv=>⟨(n5 v hv).1,by have:=(n5 v hv).2;omega⟩,by omega,by omega,by omega⟩
theorem jn9 {t w}(h:Y5 t w){e:GEv}(he:e∈t.1.getD []):e.er∈w.1:=by
 rw[<-h.1];exact List.mem_map_of_mem he
end Go.Z
