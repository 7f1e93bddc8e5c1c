/- Operations that make a new slice. -/
import Derived.Test.YtlhfdilpecnjeaaGreatDoorAbsA
set_option linter.unusedVariables false
set_option linter.unusedSimpArgs false
open Option renaming some->En,map_eq_some_iff->E6,none->Ha,isSome_none->Lf,isSome_iff_exists->Qm
open Bool renaming false->Hb,true->Hc,and_eq_true->I6,false_eq_true->Jd,or_false->Eaf
open Nat renaming eq_of_beq_eq_true->H2,le_refl->Ix,mul_le_mul_right->I5,beq->I9,le_trans->Jy,add_mul->Nw,le_of_ble_eq_true->Nx,mul_le_mul->Nz,beq_refl->Ur,mul_eq_zero->Ut,ble->Y9,succ_mul->Z2,add_zero->Z4,zero_add->Eaa,blt_eq->Ead,blt->Eah
open List renaming replicate->H3,getElem?_append_left->If,getElem?_eq_some_iff->Iq,getElem?_append_right->Iw,getElem?_eq_getElem->I1,getElem?_toArray->I2,getElem?_set_self->Jb,getElem?_take_of_lt->Jl,mem_of_getElem?->Jv,append_assoc->Jw,getElem?_set_ne->Jz,replicate_succ->J2,getElem?_cons_succ->Ld,mem_replicate->Le,mem_append->Lg,getElem?_map->Ll,getElem?_eq_none->Lm,flatMap_cons->Nu,length_set->Qc,nil_append->Qf,length_append->R2,getElem?_cons_zero->St,flatten_cons->S0,size_toArray->S8,mem_of_mem_take->T6,getElem?_of_mem->Ub,getElem?_drop->Ud,ext_getElem?->Uf,map_cons->Ug,all_eq_true->Uj,mem_flatten->Uo,mem_map->Uq,length_map->Uz,mem_cons_of_mem->V9,flatMap_append->Zn,getElem?_take->Zo,mem_cons_self->Zw,set_set->Z9,getElem?_set->Eab,length_take->Eac,mem_cons->Eae,take->Eag
open Array renaming getElem?_toList->Iy,getD_eq_getD_getElem?->I3,getElem?_eq_some_iff->I7,ext'->Ja,range->Jc,getElem?_append_left->Jx,size_append->Ui
open UInt8 renaming ofNat->Tn
open Ne renaming symm->Uh
namespace Go.Abs
section
variable {P:Program}{C C0:aQ}{ω:Nat->Option Loc}{w w0:World}{hp:qf}{env:Env}{a:Act}{o:Oper}{tmps:Array Value}{d:Loc}
theorem ar.strip {B}(e:ar C ω w B env tmps)(s:Option Nat):ar C ω w B (yh env s) tmps:=by
 cases s with
 |none=>exact e
 |some s=>
  simp only[yh];split
  .rename_i v o hl;intro t x M;simp only[jn]at M
   cases hb:I9 s t with
   |false=>rw[hb]at M;simp at M;exact e t x M
   |true=>
    rw[hb]at M;simp at M;subst M;obtain rfl:=H2 hb;obtain⟨u,Y,I,_⟩:=e s _ hl;exact⟨u,Y,I,by simp⟩
  .exact e
theorem q99 (m:aA P C ω w0 C0 hp w)(e:ar C ω w w0.heap.size env tmps){x v}(h:bS C x v):zu P C0 w0 C tmps d env ⟨x,Hb,Ha,hp⟩ v w:=
 ⟨C,ω,aQ.le_refl C,m,e,h,by simp⟩
theorem Nc (m:aA P C ω w0 C0 hp w)(e:ar C ω w w0.heap.size env tmps)(cells:Array Value)(t:TypeId)(xs:List AVal)(sz cap:Nat)(vs:List Value)(Q:bj C (xs.flatMap AVal.flat) vs)
  (hv:∀(j:Nat) v,vs[j]?=En v->cells[j]?=En v) (Y:∀v∈vs,v.oneCell'=Hc) (G:∀x∈xs,x.flat.length=sz) (hcap:xs.length<=cap) (cH:cap*sz<=cells.size) (s:Option Nat):
  zu P C0 w0 C tmps d env ⟨.list Hb sz xs,Hc,s,hp⟩ (.slice (En ⟨w.heap.size,0,Ha⟩) xs.length cap) (w.alloc (.cells cells t)):=by
 have hn:∀o,C.K w.heap.size o=Ha:=m.kN _ (Ix _);have M:Ext w (w.alloc (.cells cells t)):=Ext.alloc w _ (fun c t fr h=>by cases h;rfl);have m1:=(m.newRow cells t vs hv Y);have Tv:∀ℓ x v,aW C ω w w0.heap.size ℓ x v->aW (C.put w.heap.size 0 vs) (cO ω w.heap.size d) (w.alloc (.cells cells t)) w0.heap.size ℓ x v:=fun ℓ x v ho=>((ho.fresh (Ix _)).put vs (.inl (Ix _))).ext M;have hle:=aQ.gM (C:=C) (off:=0) vs (fun o _=>hn o);have hcells:=aQ.fo (C:=C) (off:=0) (fun o _=>hn o) Q
 have hl:vs.length=xs.length*sz:=by rw[Q.length,yv xs G]
 refine⟨C.put w.heap.size 0 vs,cO ω w.heap.size d,hle,?_,?_,?_,?_⟩
 .exact { m1 with box:=fun b x r fp hb=>((m.box b x r fp hb).mono hle fun j y v ho=>(ho.fresh (Ix _)).put vs (.inl (Ix _))).ext M }
 .refine ar.strip ?_ s
  exact fun t x M=>let ⟨v,Y,I,h3⟩:=e t x M; ⟨v,Y,aM.mono hle I,fun h=>Tv _ _ _ (h3 h)⟩
 .exact .list _ _ _ _ _ hcap (bB.eX hcells G)
 .intro _;refine⟨by simp[cO],.inl m.size,?_,rfl,rfl,⟨cells,t,by rw[vZ,if_pos rfl],by simpa using cH,gL.sized G⟩,?_⟩
  .intro b hb;have:=(m.lt b _ hb).1;simp at this
  .intro o ho;simp only[aQ.put];rw[if_neg (by simp at ho;omega)];exact hn o
theorem Nd {zs:List Value}{sz}(hz:zs.length=sz)(G:0<sz):∀(n:Nat),(List.range (n*sz)).map (fun i=>zs.toArray[i % zs.toArray.size]!)=(H3 n zs).flatten
 |0=>by simp
 |n+1=>by
  rw[Z2,List.range_add,List.map_append,Nd hz G n,List.replicate_succ',List.flatten_append]
  congr 1
  simp only[List.map_map,S0,List.flatten_nil,List.append_nil];apply Uf;intro j;rw[Ll];by_cases hj:j<sz
  .rw[List.getElem?_range hj];simp only[Option.map_some,Function.comp,S8,hz];rw[Nat.mul_add_mod_self_right,Nat.mod_eq_of_lt hj];rw[I1 (by omega),getElem!_pos _ _ (by simpa[hz]using hj)];simp
  .rw[Lm (by simpa using hj),Lm (by omega)];rfl
theorem bj.replicate {zs vs}(h:bj C zs vs):∀n:Nat,bj C (H3 n zs).flatten (H3 n vs).flatten
 |0=>.nil
 |n+1=>by
  rw[J2,J2,S0,S0];exact bj.append h (bj.replicate h n)
def ur (sz:Nat)(zero:List AVal):AVal:=bif I9 sz 1 then zero.headD .undef else .agg zero
theorem Tw {sz zero}(hz:zero.length=sz)(G:∀z∈zero,z.isAgg=Hb):(ur sz zero).flat=zero:=by
 unfold ur
 cases hb:I9 sz 1 with
 |false=>rfl
 |true=>
  obtain rfl:=H2 hb;obtain⟨z,rfl⟩:=List.length_eq_one_iff.1 hz;exact qcg (G z (by simp))
theorem qpb {sz zero}(hz:zero.length=sz)(G:∀z∈zero,z.isAgg=Hb)(n:Nat):(H3 n (ur sz zero)).flatMap AVal.flat=(H3 n zero).flatten:=by
 induction n with
 |zero=>rfl|succ n ih=>rw[J2,Nu,Tw hz G,ih,J2,S0]
theorem q5g {v x}(h:Fs v=En x):qk x=Hc/\v.oneCell'=Hc:=by
 unfold Fs at h
 split at h<;>first|cases h|skip
 all_goals exact⟨rfl,rfl⟩
theorem qpg:∀ {vs:List Value} {xs:List AVal},vW vs=En xs->(∀x∈xs,qk x=Hc)/\∀v∈vs,v.oneCell'=Hc
 | [],xs,h=>by simp[vW]at h;subst h;simp
 |v::vs,xs,h=>by
  simp only[vW]at h;split at h
  .rename_i x M;split at h
   .rename_i ys nS;cases h;obtain⟨Y,I⟩:=q5g M;obtain⟨h3,h4⟩:=qpg nS;exact⟨by simpa using⟨Y,h3⟩,by simpa using⟨I,h4⟩⟩
   .cases h
  .cases h
theorem qor {x}(h:qk x=Hc):x.isAgg=Hb:=by cases x<;>simp[qk,AVal.isAgg]at *
theorem uv {t:TypeId}{z}(h:y7 P t=En z):(∀x∈z,qk x=Hc)/\∃v,(∀w,(zeroValue t).run P w=.ok v w)/\bj C z v.cells.toList/\∀u∈v.cells.toList,u.oneCell'=Hc:=by
 unfold y7 at h;split at h
 .rename_i i hi;split at h
  .rename_i v hv;obtain⟨Y,I⟩:=qpg h;exact⟨Y,v,fun w=>by simp[zeroValue,typeInfo,hi,hv],M4 C h,I⟩
  .cases h
 .cases h
theorem Tx {x v}(h:bS C x v)(G:qk x=Hc):v.oneCell'=Hc:=by
 cases h<;>first|rfl|(simp[qk]at G)
theorem AW {xs}:∀ {vs:List Value},bj C xs vs->(∀x∈xs,qk x=Hc)->∀v∈vs,v.oneCell'=Hc:=by
 induction xs with
 |nil=>intro vs h _ v hv;cases h;cases hv
 |cons x xs ih=>
  intro vs h G v hv
  cases h with
  |cons _ _ u us M h=>
   rcases Eae.1 hv with rfl|hv
   .exact Tx M (G x (by simp))
   .exact ih h (fun y hy=>G y (by simp[hy])) v hv
theorem q36:∀ (qs:List (Nat×List AVal)) (xs ys:List AVal),kM xs qs=En ys->(∀x∈xs,qk x=Hc)->(∀q∈qs,∀x∈q.2,qk x=Hc)->∀y∈ys,qk y=Hc
 | [],xs,ys,h,M,_=>by simp[kM]at h;subst h;exact M
 |(off,vs)::qs,xs,ys,h,M,hq=>by
  simp only[kM]at h
  cases hb:Y9 (off+vs.length) xs.length with
  |false=>simp[hb]at h
  |true=>
   simp only[hb,cond_true]at h;refine q36 qs _ ys h ?_ (fun q h=>hq q (by simp[h]));intro x h;simp only[Lg]at h;rcases h with(h|h)|h
   .exact M x (T6 h)
   .exact hq (off,vs) (by simp) x h
   .exact M x (List.mem_of_mem_drop h)
theorem ql6 {sz}:∀(ps:List (Nat×ju)) (qs:List (Nat×AVal)),yi env sz ps=En qs->∀q∈qs,∀x∈q.2.flat,qk x=Hc
 | [],qs,h=>by simp[yi]at h;subst h;simp
 |(i,x)::ps,qs,h=>by
  simp only[yi]at h;split at h
  .rename_i v oO
   cases hb:(I9 v.flat.length sz&&v.flat.all qk)with
   |false=>simp[hb]at h
   |true=>
    simp only[hb,cond_true]at h;simp only[I6,Uj]at hb;split at h
    .rename_i r Q;cases h;intro q hq;rcases Eae.1 hq with rfl|hq
     .exact hb.2
     .exact ql6 ps r Q q hq
    .cases h
  .cases h
theorem qpe (e:ar C ω w w0.heap.size env a.tmps){t el:TypeId}{ps len sz z fU qs xs}
  (ho:o.op=.buildSlice t len ps) (ht:P.underlying t=En (.slice el)) (hn:js P el=En sz) (hz:y7 P el=En z) (hlen:sz*len<=65536) (h0:0<sz) (il:z.length=sz)
  (nv:xM ps.toList=En fU) (hq:yi env sz fU=En qs) (M:l6 (H3 len (ur sz z)) qs=En xs):
  ∃ds,(execOp a.eval o).run P w=.ok (.value (.slice (En ⟨w.heap.size,0,Ha⟩) len len)) (w.alloc (.cells ds el))/\bj C (xs.flatMap AVal.flat) ds.toList/\(∀v∈ds.toList,v.oneCell'=Hc)/\(∀x∈xs,x.flat.length=sz)/\xs.length=len/\len*sz<=ds.size:=by
 obtain⟨sx,zv,mf,cR,gh⟩:=uv (C:=C) hz;have xT:∀x∈z,x.isAgg=Hb:=fun x h=>qor (sx x h)
 have nU:zv.cells.toList.length=sz:=by rw[cR.length,il]
 have kU:((Jc (len*sz)).map (fun i=>zv.cells[i % zv.cells.size]!)).toList=(H3 len zv.cells.toList).flatten:=by
  have:=Nd nU h0 len;simpa using this
 obtain⟨uo,hqs⟩:=qr4 e.cw ps.toList fU qs nv hq
 obtain⟨hf,rj,nT⟩:=qzf (sz:=sz) qs _ xs M (by
  intro x h;obtain⟨_,rfl⟩:=Le.1 h
  rw[Tw il xT,il]) hqs
 rw[qpb il xT]at hf;obtain⟨ds,hd,hdr⟩:=Nb _ _ _ _ ((Jc (len*sz)).map (fun i=>zv.cells[i % zv.cells.size]!)) (by rw[kU];exact cR.replicate len) hf uo
 have kW:xs.length=len:=by simpa using nT
 have hsc:∀y∈xs.flatMap AVal.flat,qk y=Hc:=q36 _ _ _ hf (by
  intro x h;rw[Uo]at h;obtain⟨l,Y,I⟩:=h;obtain⟨_,rfl⟩:=Le.1 Y
  exact sx x I) (by
  intro q hq1 x xS;obtain⟨p,kX,rfl⟩:=Uq.1 hq1
  exact ql6 fU qs hq p kX x xS)
 have AX:ds.toList.length=len*sz:=by rw[hdr.length,yv xs rj,kW]
 refine⟨ds,?_,hdr,AW hdr hsc,rj,kW,by simp at AX;omega⟩
 .have uq:(ps.map fun(x:Nat×Operand)=>(x.1,a.eval x.2)).toList=ps.toList.map fun x=>(x.1,a.eval x.2):=by simp
  have hle:¬(16777216<len*sz):=by rw[Nat.mul_comm];omega
  by_cases HQ:len=0
  .subst HQ;have Q:Jc 0=#[]:=rfl;rw[Nat.zero_mul,Q,Array.map_empty]at hd;simp only[execOp,ho,Instr.buildSlice,Sem.run_bind,run_underlying ht,Result.andThen_ok,yz hn,uq];simp[Q,hd,newRow]
  .have bG:¬(len*sz=0):=by
    intro h;rcases Ut.1 h with h|h<;>omega
   simp only[execOp,ho,Instr.buildSlice,Sem.run_bind,run_underlying ht,Result.andThen_ok,yz hn,uq];simp[hle,bG,mf,hd,newRow]
theorem q3e (m:aA P C ω w0 C0 hp w)(e:ar C ω w w0.heap.size env a.tmps){t el:TypeId}{ps len sz z fU qs xs}
  (ho:o.op=.buildSlice t len ps) (ht:P.underlying t=En (.slice el)) (hn:js P el=En sz) (hz:y7 P el=En z) (hlen:sz*len<=65536) (h0:0<sz) (il:z.length=sz)
  (nv:xM ps.toList=En fU) (hq:yi env sz fU=En qs) (M:l6 (H3 len (ur sz z)) qs=En xs):
  ∃v w',(execOp a.eval o).run P w=.ok (.value v) w'/\zu P C0 w0 C a.tmps d env ⟨.list Hb sz xs,Hc,Ha,hp⟩ v w':=by
 obtain⟨ds,bF,hdr,Y,rj,kW,cH⟩:=qpe (C:=C) (ω:=ω) (w:=w) (w0:=w0) e ho ht hn hz hlen h0 il nv hq M;refine⟨_,_,bF,?_⟩;have fa:=Nc (d:=d) (tmps:=a.tmps) m e ds el xs sz len ds.toList hdr (by intro j v h;simpa using h) Y rj (by omega) cH Ha;rw[kW]at fa;exact fa
theorem jae (m:aA P C ω w0 C0 hp w)(e:ar C ω w w0.heap.size env a.tmps){t el:TypeId}{x y:Operand}{x' y':ju}{n sz b:Nat}{z}
  (ho:o.op=.makeSlice t x y) (ht:P.underlying t=En (.slice el)) (hn:js P el=En sz) (hb:oL P el=En b) (hz:y7 P el=En z) (h0:0<sz) (il:z.length=sz)
  (Y:qq x=En x') (I:qq y=En y') (e1:qh env x'=En (.int .i64 (n:Int))) (e2:qh env y'=En (.int .i64 (n:Int))) (hle:n<=1073741824) (iq:b<=4096):
  ∃v w',(execOp a.eval o).run P w=.ok (.value v) w'/\zu P C0 w0 C a.tmps d env ⟨.list Hb sz (H3 n (ur sz z)),Hc,Ha,hp⟩ v w':=by
 obtain⟨sx,zv,mf,cR,gh⟩:=uv (C:=C) hz;have xT:∀x∈z,x.isAgg=Hb:=fun x h=>qor (sx x h)
 have nU:zv.cells.toList.length=sz:=by rw[cR.length,il]
 have kU:((Jc (n*sz)).map (fun i=>zv.cells[i % zv.cells.size]!)).toList=(H3 n zv.cells.toList).flatten:=by
  have:=Nd nU h0 n;simpa using this
 have r1:=(qt e.cw Y e1).bU;have r2:=(qt e.cw I e2).bU
 have rj:∀x∈H3 n (ur sz z),x.flat.length=sz:=by
  intro x h;obtain⟨_,rfl⟩:=Le.1 h;rw[Tw il xT,il]
 have gi:bj C ((H3 n (ur sz z)).flatMap AVal.flat) ((Jc (n*sz)).map (fun i=>zv.cells[i % zv.cells.size]!)).toList:=by
  rw[qpb il xT,kU];exact cR.replicate n
 obtain⟨i,hi,sC⟩:∃i,P.info? el=En i/\i.bytes=b:=by
  unfold oL at hb
  cases hi:P.info? el with
  |none=>simp[hi]at hb|some i=>exact⟨i,rfl,by simpa[hi]using hb⟩
 have lD:i.size=sz:=by
  unfold js at hn;rw[hi]at hn;simpa using hn
 have sD:IntKind.i64.wrap (n:Int)=n:=by
  rw[<-xR];unfold qd
  have:si .i64 (n:Int)=Hc:=by simp[si];exact Jy hle (by decide)
  rw[this];rfl
 have AO:b*n<=281474976710656:=Jy (Nz iq hle) (by decide)
 have fa:=Nc (d:=d) (tmps:=a.tmps) m e ((Jc (n*sz)).map (fun i=>zv.cells[i % zv.cells.size]!)) el (H3 n (ur sz z)) sz n _ gi (by intro j v h;rw[Iy]at h;exact h) (by
   rw[kU];intro v hv;rw[Uo]at hv;obtain⟨l,q1,q2⟩:=hv;obtain⟨_,rfl⟩:=Le.1 q1
   exact gh v q2) rj (by simp) (by simp) Ha
 rw[List.length_replicate]at fa;refine⟨_,_,?_,fa⟩
 have c1:¬((b:Int)*(n:Int) > 2^48):=by
  have Y:((b*n:Nat):Int)<=281474976710656:=Int.ofNat_le.2 AO;rw[Int.natCast_mul]at Y
  have I:(2:Int)^48=281474976710656:=by decide
  rw[I];omega
 have c2:¬((n:Int)<0):=by omega
 have Q:Jc 0=#[]:=rfl;simp only[execOp,ho,Instr.makeSlice,Sem.run_bind,run_underlying ht,r1,r2,asInt,asIntOf,Sem.run_pure,Result.andThen_ok,typeInfo,run_program,hi,sC,sD,c2,c1,decide_false,Eaf,Jd,if_false,Int.lt_irrefl,gt_iff_lt,run_askRoom,Int.toNat_natCast,yz hn,newRow];by_cases AR:n=0
 .subst AR;simp[Q]
 .have bG:¬(n*sz=0):=by
   intro h;rcases Ut.1 h with h|h<;>omega
  simp[bG,mf]
end
structure gO (w w':World)(r:Nat)(cs:Array Value):Prop where
 at_:∃t,w'.heap[r]?=En (.cells cs t (0,0))
 size:w'.heap.size=w.heap.size
 other:∀k,k≠r->w'.heap[k]?=w.heap[k]?
 os:w'.os=w.os
 output:w'.output=w.output
theorem HR {w r old}{t:TypeId}(h:w.heap[r]?=En (.cells old t (0,0)))(cs:Array Value):gO w (w.setRow r cs) r cs:=
 ⟨⟨t,setRow_heap w r old cs t (0,0) h⟩,setRow_size w r cs,fun k hk=>setRow_other w r k cs hk,rfl,rfl⟩
section
variable {P:Program}{C C0:aQ}{ω:Nat->Option Loc}{w w' w0:World}{hp:qf}{env:Env}{a:Act}{o:Oper}{tmps:Array Value}{d:Loc}
theorem aW.hZ {B r cs ℓ x v}(hu:gO w w' r cs)(Q:ω r≠En ℓ)(ho:aW C ω w B ℓ x v):aW C ω w' B ℓ x v:=by
 unfold aW at *;split at ho
 .rename_i a len cap;obtain⟨Y,I,h3,h4,h8,⟨cells,elem,h5,h6⟩,h7⟩:=ho;refine⟨Y,I,h3,h4,h8,⟨cells,elem,?_,h6⟩,h7⟩;rw[hu.other _ (fun h=>Q (h▸Y))];exact h5
 .rename_i a;obtain⟨Y,I,h3,h4,h8,⟨cells,elem,h5,h6⟩,h7⟩:=ho;refine⟨Y,I,h3,h4,h8,⟨cells,elem,?_,h6⟩,h7⟩;rw[hu.other _ (fun h=>Q (h▸Y))];exact h5
 .trivial
theorem bM.hZ {B b r r' cs x}(hu:gO w w' r cs)(bG:r'≠r)(Q:∀j,ω r≠En (.cell b j))(hb:bM P C ω w B b r' x):bM P C ω w' B b r' x:=by
 have hg:=hu.other r' bG
 cases x with
 |hole=>exact hb
 |cells eF=>
  obtain⟨vs,elem,Y,I,h3⟩:=hb;exact⟨vs,elem,by rw[hg];exact Y,I,fun j c hc=>let ⟨v,a,q,b,d⟩:=h3 j c hc; ⟨v,a,q,b,fun e=>(d e).hZ hu (Q j)⟩⟩
 |map es=>obtain⟨cr,clock,Y,I⟩:=hb;exact⟨cr,clock,by rw[hg];exact Y,I⟩|iter s pos=>show w'.heap[r']?=_;rw[hg];exact hb|loop l=>obtain⟨lp,Y,I⟩:=hb;exact⟨lp,by rw[hg];exact Y,I⟩|fZ t e l=>obtain⟨p,v,Y,I,h3,h4⟩:=hb;exact⟨p,v,by rw[hg];exact Y,I,h3,h4.hZ hu (Q 1)⟩|dead=>obtain⟨cs,t,Y⟩:=hb;exact⟨cs,t,by rw[hg];exact Y⟩|vec sz bN xs=>exact ej.imp (fun _ _ _ h=>h) (fun _ h=>h) (fun _ h _=>h) hg (fun q n cap k=>⟨hu.other q (fun hq=>Q 0 (hq▸k.1)),k.hZ hu (Q 0)⟩) hb
theorem q1e (m:aA P C ω w0 C0 hp w)(e:ar C ω w w0.heap.size env tmps){r q cells}{t:TypeId}{news s}(hω:ω r=En (.slot s))(hB:w0.heap.size<=r\/C.W r)(hβ:∀b,C.β b≠En r)
  (hg:w.heap[r]?=En (.cells cells t (0,0))) (cH:q+news.length<=cells.size) (hK:∀o,q<=o->C.K r o=Ha) (Y:∀v∈news,v.oneCell'=Hc):
  aA P (C.put r q news) (cO ω r d) w0 C0 hp (w.setRow r (cells.toList.take q++news++cells.toList.drop (q+news.length)).toArray) /\
  ar (C.put r q news) (cO ω r d) (w.setRow r (cells.toList.take q++news++cells.toList.drop (q+news.length)).toArray) w0.heap.size (yh env (En s)) tmps/\C.le (C.put r q news):=by
 have hu:=HR hg (cells.toList.take q++news++cells.toList.drop (q+news.length)).toArray;generalize FA:w.setRow r (cells.toList.take q++news++cells.toList.drop (q+news.length)).toArray=w' at hu;have hle:=aQ.gM (C:=C) (off:=q) news hK
 have cZ:∀ℓ x v,ℓ≠.slot s->aW C ω w w0.heap.size ℓ x v->aW (C.put r q news) (cO ω r d) w' w0.heap.size ℓ x v:=by
  intro ℓ x v hℓ ho
  have bG:ω r≠En ℓ:=by rw[hω];intro h;exact hℓ (En.inj h).symm
  have I:aW (C.put r q news) ω w' w0.heap.size ℓ x v:=(ho.put news (.inr bG)).hZ hu bG;exact I.other (.inl bG)
 refine⟨?_,?_,hle⟩
 .have HS:=hu.size;refine { base:=m.base,know:=?_,dk:=?_,apart:=?_,inj:=m.inj,lt:=?_,size:=?_,frame:=?_,fA:=?_,os:=hu.os.trans m.os,output:=hu.output.trans m.output,fresh:=m.fresh,grown:=aQ.le_trans m.grown hle,old:=?_,box:=?_,iJ:=fun q hq=>by rw[hu.size];exact m.iJ q hq }
  .intro b p v hk;simp only[aQ.put]at hk;split at hk
   .rename_i hc;obtain⟨rfl,I,h3⟩:=hc;obtain⟨t',HT⟩:=hu.at_;simp only[World.cell?,HT];rw[I2,Jw,Iw (by simp;omega),If (by simp;omega)]
    have:(Eag q cells.toList).length=q:=by simp;omega
    rw[this];simpa using hk
   .by_cases hb:b=r
    .subst hb
     have bg:p<q:=by
      rcases Nat.lt_or_ge p q with h|h
      .exact h
      .rw[hK p h]at hk;cases hk
     have hc:=m.know _ _ _ hk;obtain⟨t',HT⟩:=hu.at_;simp only[World.cell?,hg]at hc;simp only[World.cell?,HT];simp only[Lf,Jd,if_false]at hc ⊢;rw[I2,Jw,If (by simp;omega),Jl bg,Iy];exact hc
    .have hc:=m.know _ _ _ hk;simp only[World.cell?]at hc ⊢;rw[hu.other b hb];exact hc
  .intro b p v hk;simp only[aQ.put]at hk;split at hk
   .exact Y v (Jv hk)
   .exact m.dk b p v hk
  .intro b p o hb;simp only[aQ.put];rw[if_neg]
   .exact m.apart b p o hb
   .rintro ⟨rfl,_⟩;exact hβ b hb
  .intro b p hb;rw[HS];exact m.lt b p hb
  .rw[HS];exact m.size
  .intro k hk hn hw
   have iu:k≠r:=fun h=>by
    subst h;rcases hB with h|h
    .omega
    .rw[m.grown.w]at h;exact hw h
   rw[hu.other k iu];exact m.frame k hk hn hw
  .intro k hk
   have iu:k≠r:=fun h=>by
    subst h;have:=m.fA k hk;rw[hg]at this;cases this
   rw[hu.other k iu];exact m.fA k hk
  .intro k o hk hw
   have iu:k≠r:=fun h=>by
    subst h;rcases hB with h|h
    .omega
    .rw[m.grown.w]at h;exact hw h
   simp only[aQ.put];rw[if_neg (by rintro ⟨h,_⟩;exact iu h)];exact m.old k o hk hw
  .intro b x p M hb;have bG:p≠r:=fun h=>hβ b (h▸hb);have uw:=m.box b x p M hb;have jM:bM P C ω w' w0.heap.size b p x:=uw.hZ hu bG (fun j=>by rw[hω];simp);refine jM.mono hle fun j y v ho=>?_
   have mM:ω r≠En (.cell b j):=by rw[hω];simp
   exact(ho.put news (.inr mM)).other (.inl mM)
 .intro t x M
  have hlk:∃v o,jn s env=En (v,o)\/jn s env=Ha:=by
   cases h:jn s env with
   |none=>exact⟨.undef,Hb,.inr rfl⟩|some x=>exact⟨x.1,x.2,.inl rfl⟩
  by_cases mN:t=s
  .subst mN;simp only[yh]at M
   cases hl:jn t env with
   |none=>rw[hl]at M;simp only[hl]at M;cases M
   |some y=>
    rw[hl]at M;simp only[jn,Ur,cond_true]at M;cases M;obtain⟨v,I,h3,_⟩:=e t y hl;exact⟨v,I,aM.mono hle h3,by simp⟩
  .have fp:jn t env=En x:=by
    simp only[yh]at M
    cases hl:jn s env with
    |none=>rw[hl]at M;exact M
    |some y=>
     rw[hl]at M;simp only[jn]at M
     have:I9 s t=Hb:=by
      cases hb:I9 s t with
      |false=>rfl|true=>exact absurd (H2 hb).symm mN
     rw[this]at M;exact M
   obtain⟨v,I,h3,h4⟩:=e t x fp;exact⟨v,I,aM.mono hle h3,fun h=>cZ _ _ _ (by simp[mN]) (h4 h)⟩
theorem Ty {t tx ty e:TypeId}{i:TypeInfo}(ht:P.underlying t=En (.slice e))(hi:P.info? e=En i)(r off nW AY:Nat)(x:Value)(n:Nat)(news:List Value)(G:Src P i.size tx x n news w)(eC:nW+n<=AY)
  {cells} {te:TypeId} (hg:w.heap[r]?=En (.cells cells te (0,0))) (cH:off+nW*i.size+news.length<=cells.size):
  (Builtin.append_ #[t,tx] ty #[.slice (En ⟨r,off,Ha⟩) nW AY,x]).run P w =
   .ok (.slice (En ⟨r,off,Ha⟩) (nW+n) AY) (w.setRow r (cells.toList.take (off+nW*i.size)++news++cells.toList.drop (off+nW*i.size+news.length)).toArray):=by
 have ct:=run_storeCells_at (P:=P) r (off+nW*i.size) te news 0 cells w hg (by simpa using cH) G.one;simp only[Z4]at ct;rcases G.kind with⟨e',hk⟩|hk<;>simp[Builtin.append_,run_underlying ht,run_underlying hk,sizeOf,typeInfo,hi,G.len,eC,G.cells,Addr.add_lit,ct]
theorem qn4 {t tx ty e:TypeId}{i:TypeInfo}(ht:P.underlying t=En (.slice e))(hi:P.info? e=En i)(x:Value)(G:Src P i.size tx x 0 [] w):
  (Builtin.append_ #[t,tx] ty #[.slice Ha 0 0,x]).run P w=.ok (.slice Ha 0 0) w:=by
 rcases G.kind with⟨e',hk⟩|hk<;>simp[Builtin.append_,run_underlying ht,run_underlying hk,sizeOf,typeInfo,hi,G.len,G.cells]
theorem Nf (m:aA P C ω w0 C0 hp w){u:TypeId}{ut:TypeDesc}{sz vy ys v}(hu:P.underlying u=En ut)(jX:AF ut=Hc)(h:yg sz vy=En ys)(Q:bS C vy v):
  ∃news,Src P sz u v ys.length news w/\bj C (ys.flatMap AVal.flat) news/\(∀y∈ys,y.flat.length=sz)/\∀x∈news,x.oneCell'=Hc:=by
 have hk:(∃e',P.underlying u=En (.slice e'))\/P.underlying u=En .string:=by
  cases ut<;>simp[AF]at jX
  .exact .inr hu
  .exact .inl ⟨_,hu⟩
 cases vy with
 |list n sy oQ=>
  simp only[yg]at h
  cases hb:(I9 sz sy||oQ.isEmpty)with
  |false=>simp[hb]at h
  |true=>
   simp only[hb,cond_true,En.injEq]at h;subst h;rcases Q.cQ with⟨rfl,rfl,rfl⟩|⟨rfl,r,q,cap,rfl,_,cY⟩|⟨rfl,rfl,ad,_,rfl⟩
   .exact⟨[],⟨hk,fun _=>rfl,run_firstCells_none w sz 0 0 0,run_firstCells_none w.drew sz 0 0 0,by simp,by simp⟩,.nil,by simp,by simp⟩
   .obtain⟨news,Y,I⟩:=cD.vals cY.cells
    have h3:∀x∈news,x.oneCell'=Hc:=fun x M=>by
     obtain⟨j,hj⟩:=Ub M;exact m.dk _ _ _ (I j x hj)
    have db:∀y∈oQ,y.flat.length=sz:=by
     intro y hy;rcases Bool.or_eq_true _ _▸hb with hb|hb
     .rw[H2 hb];exact cY.sized y hy
     .rw[List.isEmpty_iff.1 hb]at hy;cases hy
    have hl:news.length=oQ.length*sz:=by rw[Y.length,yv oQ db]
    have hc:∀j u,news[j]?=En u->w.cell? ((⟨r,q,Ha⟩:Addr).add j)=En u:=fun j u hj=>by rw[add_lit];exact m.know _ _ _ (I j u hj)
    refine⟨news,⟨hk,fun _=>rfl,run_firstCells_some w sz _ _ _ _ news hl hc,run_firstCells_some w.drew sz _ _ _ _ news hl (by simpa using hc),hl,h3⟩,Y,db,h3⟩
   .exact⟨[],⟨hk,fun _=>rfl,run_firstCells_some w sz _ _ _ _ [] (by simp) (by simp),run_firstCells_some w.drew sz _ _ _ _ [] (by simp) (by simp),by simp,by simp⟩,.nil,by simp,by simp⟩
 |str s=>
  simp only[yg]at h
  cases hb:I9 sz 1 with
  |false=>simp[hb]at h
  |true=>
   simp only[hb,cond_true,En.injEq]at h;obtain rfl:=H2 hb;subst h;obtain rfl:=Q.cz
   have kY:∀l:aj,(l.map fun(c:UInt8)=>AVal.int .u8 c.toNat).flatMap AVal.flat=l.map fun(c:UInt8)=>AVal.int .u8 c.toNat:=by
    intro l;induction l with
    |nil=>rfl|cons c l ih=>simp only[Ug,Nu,ih];rfl
   have gi:∀l:aj,bj C (l.map fun(c:UInt8)=>AVal.int .u8 c.toNat) (l.map fun b=>Value.int .u8 b.toNat):=by
    intro l;induction l with
    |nil=>exact .nil|cons c l ih=>exact .cons _ _ _ _ (.int _ _) ih
   refine⟨byteCells ⟨⟨s⟩⟩,⟨hk,fun w'=>by simp[Builtin.lenOf];rfl,?_,?_,?_,?_⟩,?_,?_,?_⟩
   .rw[Uz];exact firstCells_string (P:=P) ⟨⟨s⟩⟩ w
   .rw[Uz];exact firstCells_string (P:=P) ⟨⟨s⟩⟩ w.drew
   .simp[byteCells]
   .intro u hu;obtain⟨_,_,rfl⟩:=Uq.1 hu;rfl
   .rw[kY];simpa[byteCells]using gi s
   .intro y hy;obtain⟨_,_,rfl⟩:=Uq.1 hy;rfl
   .intro u hu;obtain⟨_,_,rfl⟩:=Uq.1 hu;rfl
 |_=>simp[yg]at h
theorem HU {x s}(h:z5 env x=En s):x=.tmp s/\∃v,jn s env=En (v,Hc):=by
 unfold z5 at h;split at h
 .split at h
  .rename_i t v hl;cases h;exact⟨rfl,v,hl⟩
  .cases h
 .cases h
theorem q7p (e:ar C ω w w0.heap.size env a.tmps){x x' sz len cap xs ad}(Y:qq x=En x')(cZ:(z5 env x').isSome=Hc)(e1:qh env x'=En (.list Hb sz xs))(M:a.eval x=.slice (En ad) len cap):ad.spot=Ha:=by
 obtain⟨s,gC⟩:=Qm.1 cZ;obtain⟨fp,v0,hl⟩:=HU gC
 have iL:v0=.list Hb sz xs:=by
  subst fp;simp only[qh,hl]at e1;exact En.inj e1
 subst iL;obtain⟨cv,xU,Ng,AZ⟩:=e s _ hl
 have pK:cv=.slice (En ad) len cap:=by
  have iM:qq x=En (.tmp s):=by rw[Y,fp]
  cases x with
  |tmp t'=>
   simp only[qq]at iM;cases iM
   have:a.eval (.tmp s)=cv:=by simp[Act.eval,I3,xU]
   rw[<-this,M]
  |const u=>simp only[qq]at iM;split at iM<;>cases iM|func f=>simp[qq]at iM|global g=>simp[qq]at iM
 subst pK;exact(AZ rfl).2.2.2.1
theorem jdu (m:aA P C ω w0 C0 hp w)(e:ar C ω w w0.heap.size env a.tmps){c}{t u el:TypeId}{ut:TypeDesc}{x y x' y' sz b n df xs ys vy}
  (ho:o.op=.call c) (ea:c.callee=.builtin .append) (ep:c.args.toList=[x,y]) (eQ:c.argTypes.toList=[t,u]) (ht:P.underlying t=En (.slice el)) (hu:P.underlying u=En ut) (jX:AF ut=Hc)
  (hn:js P el=En sz) (hb:oL P el=En b) (Y:qq x=En x') (I:qq y=En y') (e1:qh env x'=En (.list n df xs)) (e2:qh env y'=En vy) (cT:yg sz vy=En ys)
  (cZ:n=Hc\/(z5 env x').isSome=Hc) (A0:sz=df\/(xs=[]/\n=Hc)) (hlen:xs.length+ys.length<=1073741824) (iq:b<=4096) (hzero:∃z,y7 P el=En z/\z.length=sz):
  ∃v w',(execOp a.eval o).run P w=.ok (.value v) w'/\zu P C0 w0 C a.tmps d env ⟨uk n sz xs ys,Hc,z5 env x',hp⟩ v w':=by
 have ha:c.args=#[x,y]:=by apply Ja;simpa using ep
 have mK:c.argTypes=#[t,u]:=by apply Ja;simpa using eQ
 obtain⟨i,hi,sC⟩:∃i,P.info? el=En i/\i.bytes=b:=by
  unfold oL at hb
  cases hi:P.info? el with
  |none=>simp[hi]at hb|some i=>exact⟨i,rfl,by simpa[hi]using hb⟩
 have lD:i.size=sz:=by
  unfold js at hn;rw[hi]at hn;simpa using hn
 obtain⟨z,hz,A1⟩:=hzero
 obtain⟨zv,nX⟩:∃zv,i.zero=En zv:=by
  unfold y7 at hz;rw[hi]at hz
  cases hq:i.zero with
  |none=>simp[hq]at hz|some v=>exact⟨v,rfl⟩
 have rx:=qt e.cw Y e1;have ry:=qt e.cw I e2;obtain⟨news,G,dc,fP,de⟩:=Nf m hu jX cT ry
 have fb:∀ {z:Value} {w':World},(Builtin.append_ #[t,u] o.type #[a.eval x,a.eval y]).run P w=.ok z w'->(execOp a.eval o).run P w=.ok (.value z) w':=by
  intro z w' h;simp[execOp,ho,resolve,ea,ha,mK,invoke,builtin,h]
 have nY:news.length=ys.length*sz:=by rw[dc.length,yv ys fP]
 -- a new row
 have grow:∀(base:Option Addr) (cap:Nat) (eI:List Value),a.eval x=.slice base xs.length cap->cap<xs.length+ys.length->(∀(w':World),w'=w.drew->(Builtin.firstCells i.size xs.length (.slice base xs.length cap)).run P w'=.ok eI.toArray w') ->
   bj C (xs.flatMap AVal.flat) eI->(∀v∈eI,v.oneCell'=Hc)->(∀x∈xs,x.flat.length=sz) ->
   ∃v w',(execOp a.eval o).run P w=.ok (.value v) w'/\zu P C0 w0 C a.tmps d env ⟨.list Hb sz (xs++ys),Hc,z5 env x',hp⟩ v w':=by
  intro base cap eI sE hcap hold xV HW pL
  have cH:Builtin.nextslicecap (xs.length+ys.length) cap*i.bytes<=281474976710656:=growslice_fits hcap (by
   rw[sC]
   exact Jy (Nz hlen iq) (by decide))
  have bF:=run_append_grow_src w t u o.type el i zv ht hi nX base xs.length cap eI (hold _ rfl) (a.eval y) ys.length news (lD▸G) hcap (by omega) cH;rw[<-sE]at bF;refine⟨_,_,fb bF,?_⟩;have M:Ext w w.drew:=Ext.drew w;have oR:=grownCap_ge w (xs.length+ys.length) cap el
  have il:zv.cells.size=sz:=by
   obtain⟨_,zv',gh,HX,_⟩:=uv (C:=C) hz;have:=gh w;simp[zeroValue,typeInfo,hi,nX]at this;subst this;have:=HX.length;simp at this;omega
  have fa:=Nc (d:=d) (tmps:=a.tmps) (m.ext M) (e.ext M) ((eI++news).toArray++Builtin.zeroCells zv.cells (grownCap w (xs.length+ys.length) cap el-(xs.length+ys.length))) el (xs++ys) sz (grownCap w (xs.length+ys.length) cap el) (eI++news)
   (by rw[Zn];exact bj.append xV dc) (by
    intro j v hj;rw[Jx (by simpa using(Iq.1 hj).1)]
    simpa using hj) (by
    intro v hv;rcases Lg.1 hv with hv|hv
    ·exact HW v hv
    ·exact de v hv) (by
    intro x M;rcases Lg.1 M with M|M
    ·exact pL x M
    ·exact fP x M) (by rw[R2];exact oR) (by
    have ho:=xV.length;rw[yv xs pL]at ho;simp[Builtin.zeroCells,il,ho,nY];rw[<-Nw,<-Nw]
    exact I5 _ (by omega)) (z5 env x')
  rw[R2]at fa;exact fa
 rcases rx.cQ with⟨rfl,rfl,M⟩|⟨rfl,r,q,cap,M,hle,cY⟩|⟨rfl,rfl,ad,kQ,M⟩
 rotate_right
 .exact absurd (q7p e Y (by rcases cZ with h|h<;>first|cases h|exact h) e1 M) kQ
 ·-- nil
  cases ys with
  |nil=>
   have:news=[]:=by cases dc;rfl
   subst this;refine⟨.slice Ha 0 0,w,fb ?_,C,ω,aQ.le_refl C,m,e.strip _,by simpa[uk]using aM.jV 0,fun _=>trivial⟩;rw[M];exact qn4 ht hi _ (lD▸G)
  |cons y1 ys1=>
   have:=grow Ha 0 [] M (by simp) (fun w' _=>run_firstCells_none w' _ _ _ _) .nil (by simp) (by simp);simpa[uk]using this
 ·-- own
  rw[show uk Hb sz xs ys=.list Hb sz (xs++ys)from rfl]
  have HY:(z5 env x').isSome=Hc:=by rcases cZ with h|h<;>first|cases h|exact h
  obtain⟨s,gC⟩:=Qm.1 HY;obtain⟨fp,v0,hl⟩:=HU gC
  obtain rfl:sz=df:=by rcases A0 with h|⟨_,h⟩<;>first|exact h|cases h
  have iL:v0=.list Hb sz xs:=by
   subst fp;simp only[qh,hl]at e1;exact En.inj e1
  subst iL;obtain⟨cv,xU,Ng,AZ⟩:=e s _ hl
  have pK:cv=.slice (En ⟨r,q,Ha⟩) xs.length cap:=by
   have iM:qq x=En (.tmp s):=by rw[Y,fp]
   cases x with
   |tmp t'=>
    simp only[qq]at iM;cases iM
    have:a.eval (.tmp s)=cv:=by simp[Act.eval,I3,xU]
    rw[<-this,M]
   |const u=>simp only[qq]at iM;split at iM<;>cases iM|func f=>simp[qq]at iM|global g=>simp[qq]at iM
  subst pK;obtain⟨hω,hB,hβ,_,Nh,⟨cells,te,hg,cH,_⟩,hK⟩:=AZ rfl;simp only at hω hB hβ hg cH hK;obtain⟨eI,A2,Ni⟩:=cD.vals cY.cells;have pL:=cY.sized;by_cases eC:xs.length+ys.length<=cap
  ·-- there is room
   have gP:(xs.length+ys.length)*sz<=cap*sz:=I5 _ eC;rw[Nw]at gP;have bF:=Ty (P:=P) (w:=w) (ty:=o.type) ht hi r q xs.length cap (a.eval y) ys.length news (lD▸G) eC hg (by rw[lD,nY];omega);rw[<-M]at bF;obtain⟨m',e',cU⟩:=q1e (d:=d) (tmps:=a.tmps) m e (r:=r) (q:=q+xs.length*sz) (news:=news) hω hB hβ hg (by rw[nY];omega) hK de;rw[lD]at bF;rw[gC];refine⟨_,_,fb bF,_,_,cU,m',e',?_,?_⟩
   .have sF:bB (C.put r (q+xs.length*sz) news) r sz (xs++ys) q:=bB.append (aM.mono cU cY) (bB.eX (aQ.fo hK dc) fP);have:=aM.list sz (xs++ys) r q cap (by simpa using eC) sF;simpa using this
   .intro _
    have hall:∀x∈xs++ys,x.flat.length=sz:=fun x M=>by
     rcases Lg.1 M with M|M
     .exact pL x M
     .exact fP x M
    refine⟨by simp[cO],hB,hβ,rfl,Nh,⟨_,te,setRow_heap w r cells _ te (0,0) hg,?_,gL.sized hall⟩,?_⟩
    .simp;omega
    .intro p hp;rw[Nw]at hp;simp only[aQ.put];simp only at hp;rw[if_neg (by rw[nY];omega)];exact hK p (by omega)
  ·-- there is none
   have gN:∀v∈eI,v.oneCell'=Hc:=fun v hv=>by
    obtain⟨j,hj⟩:=Ub hv;exact m.dk _ _ _ (Ni j v hj)
   have Tz:eI.length=xs.length*i.size:=by rw[A2.length,yv xs pL,lD]
   have:=grow (En ⟨r,q,Ha⟩) cap eI M (by omega) (fun w' FA=>run_firstCells_some w' _ _ _ _ _ eI Tz (fun j v hj=>by
    subst FA;rw[add_lit];have:=m.know _ _ _ (Ni j v hj)
    simpa using this)) A2 gN pL
   simpa using this
end
structure nZ (w w':World)(r:Nat):Prop where
 size:w'.heap.size=w.heap.size
 other:∀k,k≠r->w'.heap[k]?=w.heap[k]?
 fz:∀c t fr,w'.heap[r]?=En (.cells c t fr)->fr=(0,0)
 os:w'.os=w.os
 output:w'.output=w.output
theorem gO.hZ {w w' r cs}(h:gO w w' r cs):nZ w w' r:=
 ⟨h.size,h.other,fun c t fr hc=>by obtain⟨t',ht⟩:=h.at_;rw[ht]at hc;cases hc;rfl,h.os,h.output⟩
section
variable {P:Program}{C C0:aQ}{ω:Nat->Option Loc}{w w' w0:World}{hp:qf}{env:Env}{a:Act}{o:Oper}{tmps:Array Value}{d:Loc}
theorem aW.dK {B b r ℓ x v}(hu:nZ w w' r)(hb:C.β b=En r)(ho:aW C ω w B ℓ x v):aW C ω w' B ℓ x v:=by
 unfold aW at *;split at ho
 .obtain⟨Y,I,h3,h4,h8,⟨cells,elem,h5,h6⟩,h7⟩:=ho;refine⟨Y,I,h3,h4,h8,⟨cells,elem,?_,h6⟩,h7⟩;rw[hu.other _ (fun h=>h3 b (by rw[h];exact hb))];exact h5
 .obtain⟨Y,I,h3,h4,h8,⟨cells,elem,h5,h6⟩,h7⟩:=ho;refine⟨Y,I,h3,h4,h8,⟨cells,elem,?_,h6⟩,h7⟩;rw[hu.other _ (fun h=>h3 b (by rw[h];exact hb))];exact h5
 .trivial
theorem ar.dK {B b r}(hu:nZ w w' r)(hb:C.β b=En r)(e:ar C ω w B env tmps):ar C ω w' B env tmps:=
 fun s x M=>let ⟨v,Y,I,h3⟩:=e s x M; ⟨v,Y,I,fun h=>(h3 h).dK hu hb⟩
theorem bM.dK {B b b' r r' x}(hu:nZ w w' r)(hb:C.β b=En r)(bG:r'≠r)(h:bM P C ω w B b' r' x):bM P C ω w' B b' r' x:=by
 have hg:=hu.other r' bG
 cases x with
 |hole=>exact h
 |cells eF=>
  obtain⟨vs,elem,Y,I,h3⟩:=h;exact⟨vs,elem,by rw[hg];exact Y,I,fun j c hc=>let ⟨v,a,q,b,d⟩:=h3 j c hc; ⟨v,a,q,b,fun e=>(d e).dK hu hb⟩⟩
 |map es=>obtain⟨cr,clock,Y,I⟩:=h;exact⟨cr,clock,by rw[hg];exact Y,I⟩|iter s pos=>show w'.heap[r']?=_;rw[hg];exact h|loop l=>obtain⟨lp,Y,I⟩:=h;exact⟨lp,by rw[hg];exact Y,I⟩|fZ t e l=>obtain⟨p,v,Y,I,h3,h4⟩:=h;exact⟨p,v,by rw[hg];exact Y,I,h3,h4.dK hu hb⟩|dead=>obtain⟨cs,t,Y⟩:=h;exact⟨cs,t,by rw[hg];exact Y⟩|vec sz bN xs=>exact ej.imp (fun _ _ _ h=>h) (fun _ h=>h) (fun _ h _=>h) hg (fun q n cap k=>⟨hu.other q (fun hq=>k.2.2.1 b (by rw[hb];exact congrArg En hq.symm)),k.dK hu hb⟩) h
theorem aA.dX {ω'}(m:aA P C ω w0 C0 hp w){b r}(hu:nZ w w' r)(hb:C.β b=En r)(x':aK)(hω:∀b' j y v,b'≠b->aW C ω w w0.heap.size (.cell b' j) y v->aW C ω' w w0.heap.size (.cell b' j) y v)
  (gQ:bM P C ω' w' w0.heap.size b r x'):aA P C ω' w0 C0 (hp.set b x') w':=by
 have hfr:=m.fresh b r hb
 have FB:w.heap[r]?≠En (.deferred (En [])):=by
  obtain⟨x,M⟩:=I1 (m.lt b r hb).2▸(⟨_,rfl⟩:∃x,En (hp[b]'(m.lt b r hb).2)=En x);have h0:=m.box b x r M hb;intro h
  cases x with
  |hole=>exact h0|cells cs=>obtain⟨vs,elem,Y,_⟩:=h0;rw[h]at Y;cases Y|map es=>obtain⟨cr,clock,Y,_⟩:=h0;rw[h]at Y;cases Y|iter s pos=>have Y:w.heap[r]?=_:=h0;rw[h]at Y;cases Y|loop l=>obtain⟨lp,Y,_⟩:=h0;rw[h]at Y;cases Y|fZ t e l=>obtain⟨p,v,Y,_⟩:=h0;rw[h]at Y;cases Y|dead=>obtain⟨cs,t,Y⟩:=h0;rw[h]at Y;cases Y|vec sz bN xs=>obtain⟨_,_,_,_,_,_,cs,t,Y⟩:=h0;rw[h]at Y;cases Y
 refine { base:=m.base,know:=?_,dk:=m.dk,apart:=m.apart,inj:=m.inj,lt:=?_,size:=?_,frame:=?_,fA:=?_,os:=hu.os.trans m.os,output:=hu.output.trans m.output,fresh:=m.fresh,grown:=m.grown,old:=m.old,box:=?_,iJ:=fun q hq=>by rw[hu.size];exact m.iJ q hq }
 .intro k p v hk
  have bG:k≠r:=fun h=>by rw[h,m.apart b r p hb]at hk;cases hk
  have hc:=m.know _ _ _ hk;simp only[World.cell?]at hc ⊢;rw[hu.other k bG];exact hc
 .intro k p hk;rw[hu.size,Qc];exact m.lt k p hk
 .rw[hu.size];exact m.size
 .intro k hk hn hw;by_cases iu:k=r
  .subst iu;rcases hfr with h|h|h
   .exact absurd h (hn b)
   .omega
   .exact absurd h hw
  .rw[hu.other k iu];exact m.frame k hk hn hw
 .intro k hk;have iu:k≠r:=fun h=>FB (h▸m.fA k hk);rw[hu.other k iu];exact m.fA k hk
 .intro k x p M hk;by_cases mO:k=b
  .subst mO;rw[hb]at hk;cases hk;rw[Jb (m.lt k _ hb).2]at M;cases M;exact gQ
  .rw[Jz (Uh mO)]at M;have uo:p≠r:=fun h=>mO (m.inj k b p hk (h▸hb));have h0:=m.box k x p M hk
   exact((h0.dK hu hb uo).mono (ω':=ω') (aQ.le_refl C) (fun j y v ho=>by
    have:=hω k j y v mO
    -- the ownerships of other boxes,in the new world
    unfold aW at ho this ⊢;split at ho
    ·obtain⟨Y,I,h3,h4,h8,⟨cells,elem,h5,h6⟩,h7⟩:=ho;rename_i ad len cap;have mM:ad.block≠r:=fun h=>h3 b (h▸hb);rw[hu.other _ mM]at h5;obtain⟨k1,_⟩:=this ⟨Y,I,h3,h4,h8,⟨cells,elem,h5,h6⟩,h7⟩;exact⟨k1,I,h3,h4,h8,⟨cells,elem,by rw[hu.other _ mM];exact h5,h6⟩,h7⟩
    ·obtain⟨Y,I,h3,h4,h8,⟨cells,elem,h5,h6⟩,h7⟩:=ho;rename_i ad;have mM:ad.block≠r:=fun h=>h3 b (h▸hb);rw[hu.other _ mM]at h5;obtain⟨k1,_⟩:=this ⟨Y,I,h3,h4,h8,⟨cells,elem,h5,h6⟩,h7⟩;exact⟨k1,I,h3,h4,h8,⟨cells,elem,by rw[hu.other _ mM];exact h5,h6⟩,h7⟩
    ·trivial))
theorem bM.read {B b r off n cs us}(h:bM P C ω w B b r (.cells cs))(hl:zt cs off n=En us):
  ∃vs,bj C us vs/\us.length=n/\vs.length=n/\(∀j v,vs[j]?=En v->w.cell? ⟨r,off+j,Ha⟩=En v)/\∀v∈vs,v.oneCell'=Hc:=by
 unfold zt at hl
 cases hb:Y9 (off+n) cs.length with
 |false=>simp[hb]at hl
 |true=>
  simp only[hb,cond_true,En.injEq]at hl;subst hl;have hle:=Nx hb;obtain⟨vs,elem,Y,I,h3⟩:=h
  have key:∀(n off:Nat),off+n<=cs.length->∃ws:List Value,bj C (((cs.drop off).take n).map (·.1)) ws/\ws.length=n/\∀j v,ws[j]?=En v->vs[off+j]?=En v/\v.oneCell'=Hc:=by
   intro n
   induction n with
   |zero=>intro off _;exact⟨[],by simpa using aM.nil,rfl,by simp⟩
   |succ n ih=>
    intro off hle;obtain⟨ws,i1,i2,i3⟩:=ih (off+1) (by omega)
    have bg:off<cs.length:=by omega
    obtain⟨v,j1,j2,j3,_⟩:=h3 off cs[off] (I1 bg);refine⟨v::ws,?_,by simp[i2],?_⟩
    .rw[List.drop_eq_getElem_cons bg];exact .cons _ _ _ _ j3 i1
    .intro j u hj
     cases j with
     |zero=>simp at hj;subst hj;exact⟨j1,j2⟩|succ j=>simp at hj;rw[show off+(j+1)=off+1+j from by omega];exact i3 j u hj
  obtain⟨ws,k1,k2,k3⟩:=key n off hle;refine⟨ws,k1,by simp;omega,k2,?_,?_⟩
  .intro j v hj;have:=(k3 j v hj).1;simp[World.cell?,Y,this]
  .intro v hv;obtain⟨j,hj⟩:=Ub hv;exact(k3 j v hj).2
theorem HZ {t:TypeId}{n r off vs}(hg:y5 P t=En Hc)(hn:js P t=En n)(hl:vs.length=n)(hc:∀j v,vs[j]?=En v->w.cell? ⟨r,off+j,Ha⟩=En v):
  (loadVar t ⟨r,off,Ha⟩).run P w=.ok (.agg ⟨vs⟩) w:=by
 have:=run_loadCells_list (P:=P) w ⟨r,off,Ha⟩ vs (fun j v hj=>by rw[add_lit];exact hc j v hj);rw[hl]at this;simp[loadVar,Fy hg,yz hn,this]
theorem H0 {t:TypeId}{r off v}(hg:y5 P t=En Hb)(hc:w.cell? ⟨r,off,Ha⟩=En v):(loadVar t ⟨r,off,Ha⟩).run P w=.ok v w:=by
 simp[loadVar,Fy hg,hc]
theorem TA (m:aA P C ω w0 C0 hp w)(he:bz C env a.tmps){t:TypeId}{x x' n ag p v}(ho:o.op=.load t x)(hg:y5 P t=En ag)(hn:js P t=En n)(H4:ag=Hb->n=1)(Y:qq x=En x')(e1:qh env x'=En p)
  (hv:(∃b q cs us,p=.ptr b q/\qw hp b=En cs/\zt cs q n=En us/\((ag=Hc/\v=.agg us)\/(ag=Hb/\us=[v])))\/(p=.aq v/\Bool.xor ag v.isAgg=Hb/\v.flat.length=n)):Val P C a o w v:=by
 rcases hv with⟨b,q,cs,us,rfl,jN,hl,hv⟩|⟨rfl,M,wh⟩
 .obtain⟨r,Q,hq⟩:=(qt he Y e1).dr
  have gR:hp[b]?=En (.cells cs):=by
   unfold qw at jN;split at jN
   .rename_i eF h;cases jN;exact h
   .cases jN
  obtain⟨vs,k1,_,k2,k3,_⟩:=(m.box b _ r gR Q).read hl;rcases hv with⟨rfl,rfl⟩|⟨rfl,rfl⟩
  .exact⟨.agg ⟨vs⟩,by simp[execOp,ho,Instr.loadAt,hq,Instr.sureAddr,HZ hg hn k2 k3],.agg _ _ k1⟩
  .cases k1 with
   |cons _ _ u us hu lC=>
    cases lC;refine⟨u,?_,hu⟩;have:=H0 (P:=P) hg (by simpa using k3 0 u rfl);simp[execOp,ho,Instr.loadAt,hq,Instr.sureAddr,this]
 .obtain⟨r,q,hq,hc⟩:=(qt he Y e1).eY;obtain⟨vs,k1,k2⟩:=cD.vals hc
  have hl:vs.length=n:=by rw[k1.length,wh]
  have k3:∀j u,vs[j]?=En u->w.cell? ⟨r,q+j,Ha⟩=En u:=fun j u hj=>m.know _ _ _ (k2 j u hj)
  cases ag with
  |true=>
   cases v<;>simp[AVal.isAgg]at M;exact⟨.agg ⟨vs⟩,by simp[execOp,ho,Instr.loadAt,hq,Instr.sureAddr,HZ hg hn hl k3],.agg _ _ k1⟩
  |false=>
   rw[qcg (by simpa using M)]at k1
   cases k1 with
   |cons _ _ u us hu lC=>
    cases lC;refine⟨u,?_,hu⟩;have:=H0 (P:=P) hg (by simpa using k3 0 u rfl);simp[execOp,ho,Instr.loadAt,hq,Instr.sureAddr,this]
def aQ.box (C:aQ)(b r:Nat):aQ:={ C with β:=fun k=>if k=b then En r else C.β k }
theorem aQ.lE {b r}(h:C.β b=Ha):C.le (C.box b r):=
 ⟨fun _ _ _ h=>h,fun k p hk=>by
  simp only[aQ.box];rw[if_neg (fun hb=>by rw[hb,h]at hk;cases hk)]
  exact hk,rfl,fun _ h=>h,fun _ h=>h⟩
theorem aW.box {B b r ℓ x v}(Q:w.heap.size<=r\/ω r≠En ℓ)(ho:aW C ω w B ℓ x v):aW (C.box b r) ω w B ℓ x v:=by
 unfold aW at *;split at ho
 .rename_i ad len cap;obtain⟨Y,I,h3,h4,h8,⟨cells,elem,h5,h6⟩,h7⟩:=ho;have bg:ad.block<w.heap.size:=(I7.1 h5).1;refine⟨Y,I,fun k hk=>?_,h4,h8,⟨cells,elem,h5,h6⟩,h7⟩;simp only[aQ.box]at hk;split at hk
  .have iN:r=ad.block:=En.inj hk;rcases Q with Q|Q
   .omega
   .exact Q (iN▸Y)
  .exact h3 k hk
 .rename_i ad;obtain⟨Y,I,h3,h4,h8,⟨cells,elem,h5,h6⟩,h7⟩:=ho;have bg:ad.block<w.heap.size:=(I7.1 h5).1;refine⟨Y,I,fun k hk=>?_,h4,h8,⟨cells,elem,h5,h6⟩,h7⟩;simp only[aQ.box]at hk;split at hk
  .have iN:r=ad.block:=En.inj hk;rcases Q with Q|Q
   .omega
   .exact Q (iN▸Y)
  .exact h3 k hk
 .trivial
theorem ke {h0 rk x h'}(h:aO h0 hp rk x=En h'):hp[h0+rk]?=En .hole/\h'=hp.set (h0+rk) x:=by
 unfold aO at h;split at h
 .rename_i hh;cases h;exact⟨hh,rfl⟩
 .cases h
theorem H5 (m:aA P C ω w0 C0 hp w){b}(h:hp[b]?=En .hole):C.β b=Ha:=by
 cases hb:C.β b with
 |none=>rfl|some r=>exact(m.box b .hole r h hb).elim
theorem aA.aO (m:aA P C ω w0 C0 hp w)(e:ar C ω w w0.heap.size env tmps){b}(hh:hp[b]?=En .hole)(obj:Obj)(TB:∀c t fr,obj=.cells c t fr->fr=(0,0))(x:aK)
  (gQ:∀C' ω' w',C.le C'->w'.heap[w.heap.size]?=En obj->bM P C' ω' w' w0.heap.size b w.heap.size x):
  aA P (C.box b w.heap.size) ω w0 C0 (hp.set b x) (w.alloc obj)/\ar (C.box b w.heap.size) ω (w.alloc obj) w0.heap.size env tmps/\C.le (C.box b w.heap.size):=by
 have M:Ext w (w.alloc obj):=Ext.alloc w obj TB;have hβ:=H5 m hh;have hle:=aQ.lE (C:=C) (r:=w.heap.size) hβ;have m':=m.ext M;have bg:b<hp.length:=(Iq.1 hh).1;refine⟨{ m' with apart:=?_,inj:=?_,lt:=?_,fresh:=?_,grown:=aQ.le_trans m.grown hle,box:=?_ },?_,hle⟩
 .intro k r q hk;simp only[aQ.box]at hk;split at hk
  .cases hk;exact m.kN _ (Ix _) q
  .exact m.apart k r q hk
 .intro k k' r hk fc;simp only[aQ.box]at hk fc;split at hk<;>split at fc
  .rename_i Y I;rw[Y,I]
  .cases hk;have:=(m.lt k' _ fc).1;omega
  .cases fc;have:=(m.lt k _ hk).1;omega
  .exact m.inj k k' r hk fc
 .intro k r hk;rw[Qc];simp only[aQ.box]at hk;split at hk
  .rename_i Y;cases hk;subst Y;exact⟨by rw[World.size_alloc];omega,bg⟩
  .have:=m.lt k r hk;exact⟨by rw[World.size_alloc];omega,this.2⟩
 .intro k r hk;simp only[aQ.box]at hk;split at hk
  .cases hk;exact .inr (.inl m.size)
  .exact m.fresh k r hk
 .intro k y r hy hk;simp only[aQ.box]at hk;split at hk
  .rename_i Y;subst Y;cases hk;rw[Jb bg]at hy;cases hy;exact gQ _ _ _ hle (by rw[vZ,if_pos rfl])
  .rename_i Y;rw[Jz (Uh Y)]at hy;exact((m.box k y r hy hk).mono (ω':=ω) hle fun j z v ho=>ho.box (.inl (Ix _))).ext M
 .exact fun s y hy=>let ⟨v,Y,I,h3⟩:=e s y hy; ⟨v,Y,aM.mono hle I,fun h=>((h3 h).box (.inl (Ix _))).ext M⟩
theorem aW.H6 {B b r ℓ x v}(Q:∀cs t fr,w.heap[r]?≠En (.cells cs t fr))(ho:aW C ω w B ℓ x v):aW (C.box b r) ω w B ℓ x v:=by
 unfold aW at *;split at ho
 .rename_i ad len cap;obtain⟨Y,I,h3,h4,h8,⟨cells,elem,h5,h6⟩,h7⟩:=ho;refine⟨Y,I,fun k hk=>?_,h4,h8,⟨cells,elem,h5,h6⟩,h7⟩;simp only[aQ.box]at hk;split at hk
  .have iN:r=ad.block:=En.inj hk;exact absurd (iN▸h5) (Q _ _ _)
  .exact h3 k hk
 .rename_i ad;obtain⟨Y,I,h3,h4,h8,⟨cells,elem,h5,h6⟩,h7⟩:=ho;refine⟨Y,I,fun k hk=>?_,h4,h8,⟨cells,elem,h5,h6⟩,h7⟩;simp only[aQ.box]at hk;split at hk
  .have iN:r=ad.block:=En.inj hk;exact absurd (iN▸h5) (Q _ _ _)
  .exact h3 k hk
 .trivial
theorem aA.H7 (m:aA P C ω w0 C0 hp w)(e:ar C ω w w0.heap.size env tmps){b q es cr clock}(hh:hp[b]?=En .hole)(hg:w.heap[q]?=En (.map cr clock))(hq:∀k,C.β k≠En q)(hb:w0.heap.size<=q)(Q:cI C es cr.toList):
  aA P (C.box b q) ω w0 C0 (hp.set b (.map es)) w/\ar (C.box b q) ω w w0.heap.size env tmps/\C.le (C.box b q):=by
 have hβ:=H5 m hh;have hle:=aQ.lE (C:=C) (r:=q) hβ;have bg:b<hp.length:=(Iq.1 hh).1
 have mg:∀cs t fr,w.heap[q]?≠En (.cells cs t fr):=fun cs t fr h=>by rw[hg]at h;cases h
 refine⟨{ m with apart:=?_,inj:=?_,lt:=?_,fresh:=?_,grown:=aQ.le_trans m.grown hle,box:=?_ },?_,hle⟩
 .intro k r o hk;simp only[aQ.box]at hk;split at hk
  .cases hk;show C.K q o=Ha
   cases hK:C.K q o with
   |none=>rfl
   |some v=>
    have:=m.know q o v hK;simp[World.cell?,hg]at this
  .exact m.apart k r o hk
 .intro k k' r hk fc;simp only[aQ.box]at hk fc;split at hk<;>split at fc
  .rename_i Y I;rw[Y,I]
  .cases hk;exact absurd fc (hq k')
  .cases fc;exact absurd hk (hq k)
  .exact m.inj k k' r hk fc
 .intro k r hk;rw[Qc];simp only[aQ.box]at hk;split at hk
  .rename_i Y;cases hk;subst Y;exact⟨(I7.1 hg).1,bg⟩
  .exact m.lt k r hk
 .intro k r hk;simp only[aQ.box]at hk;split at hk
  .cases hk;exact .inr (.inl hb)
  .exact m.fresh k r hk
 .intro k y r hy hk;simp only[aQ.box]at hk;split at hk
  .rename_i Y;subst Y;cases hk;rw[Jb bg]at hy;cases hy;exact⟨cr,clock,hg,Q.mono hle⟩
  .rename_i Y;rw[Jz (Uh Y)]at hy;exact(m.box k y r hy hk).mono (ω':=ω) hle fun j z v ho=>ho.H6 mg
 .exact fun s y hy=>let ⟨v,Y,I,h3⟩:=e s y hy; ⟨v,Y,aM.mono hle I,fun h=>(h3 h).H6 mg⟩
theorem TC {xs vs}{t:TypeId}{B b r cells}(Q:bj C xs vs)(G:∀x∈xs,qk x=Hc)(hv:∀(j:Nat) v,vs[j]?=En v->cells[j]?=En v)(hl:xs.length<=cells.size):
  ∀C' ω' w',C.le C'->w'.heap[r]?=En (.cells cells t (0,0))->bM P C' ω' w' B b r (.cells (cellsOf xs)):=by
 intro C' ω' w' hle hg;refine⟨cells,t,hg,by simpa[cellsOf]using hl,?_⟩;intro j c hc;simp only[cellsOf,Ll,E6]at hc;obtain⟨x,M,rfl⟩:=hc;obtain⟨v,Y,I⟩:=Q.get M;exact⟨v,hv j v Y,Tx I (G x (Jv M)),aM.mono hle I,by simp⟩
theorem jii (m:aA P C ω w0 C0 hp w)(e:ar C ω w w0.heap.size env a.tmps){t:TypeId}{z h0 rk h'}(ho:o.op=.alloc t)(hz:y7 P t=En z)(G:∀x∈z,qk x=Hc)(hn:aO h0 hp rk (.cells (cellsOf z))=En h'):
  ∃v w',(execOp a.eval o).run P w=.ok (.value v) w'/\zu P C0 w0 C a.tmps d env ⟨.ptr (h0+rk) 0,Hb,Ha,h'⟩ v w':=by
 obtain⟨hh,rfl⟩:=ke hn;obtain⟨_,zv,mf,cR,gh⟩:=uv (C:=C) hz;obtain⟨m',e',hle⟩:=m.aO e hh (.cells zv.cells t) (fun c t fr h=>by cases h;rfl) (.cells (cellsOf z)) (TC cR G (fun j v h=>by simpa using h) (by have:=cR.length;simp at this;omega));refine⟨.pointer (En ⟨w.heap.size,0,Ha⟩),_,?_,_,_,hle,m',e',.ptr _ _ _ (by simp[aQ.box]),by simp⟩;simp[execOp,ho,Instr.alloc,mf,newVar,newRow]
theorem jva (m:aA P C ω w0 C0 hp w)(e:ar C ω w w0.heap.size env a.tmps){t:TypeId}{x x' v h0 rk h'}(ho:o.op=.box t x)(Y:qq x=En x')(e1:qh env x'=En v)(G:v.flat.all qk=Hc)
  (hn:aO h0 hp rk (.cells (cellsOf v.flat))=En h'):
  ∃v w',(execOp a.eval o).run P w=.ok (.value v) w'/\zu P C0 w0 C a.tmps d env ⟨.ptr (h0+rk) 0,Hb,Ha,h'⟩ v w':=by
 obtain⟨hh,rfl⟩:=ke hn;have Q:=AU (qt e.cw Y e1) G;obtain⟨m',e',hle⟩:=m.aO e hh (.cells (a.eval x).cells t) (fun c t fr h=>by cases h;rfl) (.cells (cellsOf v.flat)) (TC Q (by simpa using G) (fun j v h=>by simpa using h) (by have:=Q.length;simp at this;omega));refine⟨.pointer (En ⟨w.heap.size,0,Ha⟩),_,?_,_,_,hle,m',e',.ptr _ _ _ (by simp[aQ.box]),by simp⟩;simp[execOp,ho,Instr.box,newVar,newRow]
theorem jou (m:aA P C ω w0 C0 hp w)(e:ar C ω w w0.heap.size env a.tmps){t:TypeId}{x x' v}(ho:o.op=.box t x)(Y:qq x=En x')(e1:qh env x'=En v)(G:v.flat.all qk=Hc):
  ∃u w',(execOp a.eval o).run P w=.ok (.value u) w'/\zu P C0 w0 C a.tmps d env ⟨.aq v,Hb,Ha,hp⟩ u w':=by
 have Q:=AU (qt e.cw Y e1) G;have M:Ext w (w.alloc (.cells (a.eval x).cells t)):=Ext.alloc w _ (fun c t fr h=>by cases h;rfl);have hn:∀o,0<=o->C.K w.heap.size o=Ha:=fun o _=>m.kN _ (Ix _) o;have m':=m.newRow (a.eval x).cells t (a.eval x).cells.toList (fun j v h=>by simpa using h) (AW Q (fun y hy=>Uj.1 G y hy));refine⟨.pointer (En ⟨w.heap.size,0,Ha⟩),_,?_,_,ω,aQ.gM _ hn,m',(e.put _ (.inl (Ix _)) hn).ext M,.aq _ _ _ (aQ.fo hn Q),by simp⟩;simp[execOp,ho,Instr.box,newVar,newRow]
theorem jse (m:aA P C ω w0 C0 hp w)(e:ar C ω w w0.heap.size env a.tmps){t:TypeId}{e' sz h0 rk h'}(ho:o.op=.alloc t)(hz:y7 P t=En [.b6,.list Hc sz []])(hn:aO h0 hp rk (.fZ t e' [])=En h'):
  ∃v w',(execOp a.eval o).run P w=.ok (.value v) w'/\zu P C0 w0 C a.tmps d env ⟨.ptr (h0+rk) 0,Hb,Ha,h'⟩ v w':=by
 obtain⟨hh,rfl⟩:=ke hn;obtain⟨_,zv,mf,cR,gh⟩:=uv (C:=C) hz
 have hzc:zv.cells=#[.pointer Ha,.slice Ha 0 0]:=by
  apply Ja;generalize zv.cells.toList=vs at cR
  cases cR with
  |cons _ _ v vs Y I=>
   cases I with
   |cons _ _ u us h3 h4=>
    cases h4;cases Y;cases h3;rfl
 obtain⟨m',e',hle⟩:=m.aO e hh (.cells zv.cells t) (fun c t fr h=>by cases h;rfl) (.fZ t e' []) (fun C' ω' w' _ hg=>⟨.pointer Ha,.slice Ha 0 0,by rw[hzc]at hg;exact hg,.inl rfl,.inl ⟨rfl,rfl⟩,trivial⟩);refine⟨.pointer (En ⟨w.heap.size,0,Ha⟩),_,?_,_,_,hle,m',e',.ptr _ _ _ (by simp[aQ.box]),by simp⟩;simp[execOp,ho,Instr.alloc,mf,newVar,newRow]
theorem jgu (m:aA P C ω w0 C0 hp w)(e:ar C ω w w0.heap.size env a.tmps){t:TypeId}{h0 rk h'}(ho:o.op=.makeMap t Ha)(hn:aO h0 hp rk (.map [])=En h'):
  ∃v w',(execOp a.eval o).run P w=.ok (.value v) w'/\zu P C0 w0 C a.tmps d env ⟨.map (h0+rk),Hb,Ha,h'⟩ v w':=by
 obtain⟨hh,rfl⟩:=ke hn;obtain⟨m',e',hle⟩:=m.aO e hh (.map #[] 0) (fun c t fr h=>by cases h) (.map []) (fun C' ω' w' _ hg=>⟨#[],0,hg,.nil⟩);refine⟨.map (En w.heap.size),_,?_,_,_,hle,m',e',.map _ _ (by simp[aQ.box]),by simp⟩;simp[execOp,ho,Instr.makeMap]
theorem jef (m:aA P C ω w0 C0 hp w)(e:ar C ω w w0.heap.size env a.tmps){t:TypeId}{x x' s h0 rk h'}(ho:o.op=.range t x)(ht:P.underlying t=En .string)(Y:qq x=En x')(e1:qh env x'=En (.str s))(hn:aO h0 hp rk (.iter s 0)=En h'):
  ∃v w',(execOp a.eval o).run P w=.ok (.value v) w'/\zu P C0 w0 C a.tmps d env ⟨.ptr (h0+rk) 0,Hb,Ha,h'⟩ v w':=by
 obtain⟨hh,rfl⟩:=ke hn;have G:=(qt e.cw Y e1).cz;obtain⟨m',e',hle⟩:=m.aO e hh (.stringIter ⟨⟨s⟩⟩ 0) (fun c t fr h=>by cases h) (.iter s 0) (fun C' ω' w' _ hg=>hg);refine⟨.pointer (En ⟨w.heap.size,0,Ha⟩),_,?_,_,_,hle,m',e',.ptr _ _ _ (by simp[aQ.box]),by simp⟩;simp[execOp,ho,Instr.range,run_underlying ht,G]
end
section
variable {P:Program}{C C0:aQ}{ω:Nat->Option Loc}{w w' w0:World}{hp:qf}{env:Env}{a:Act}{o:Oper}{tmps:Array Value}{d:Loc}
def ux (ω:Nat->Option Loc)(x:AVal)(v:Value)(ℓ:Loc):Nat->Option Loc:=
 match x,v with
 | .list ..,.slice (En ad) _ _=>cO ω ad.block ℓ| .cW _,.pointer (En ad)=>cO ω ad.block ℓ|_,_=>ω
theorem xW {B ℓ0 ℓ ℓ' x z cv u}(h0:aW C ω w B ℓ0 x cv)(bG:ℓ≠ℓ0)(hz:aW C ω w B ℓ z u):aW C (ux ω x cv ℓ') w B ℓ z u:=by
 unfold ux;split
 .rename_i ad l c;have hω:ω ad.block=En ℓ0:=h0.1;exact hz.other (.inl (by rw[hω];intro h;exact bG (En.inj h).symm))
 .rename_i n ad;have hω:ω ad.block=En ℓ0:=h0.1;exact hz.other (.inl (by rw[hω];intro h;exact bG (En.inj h).symm))
 .exact hz
theorem Nj {B ℓ0 ℓ' x cv}(h0:aW C ω w B ℓ0 x cv):aW C (ux ω x cv ℓ') w B ℓ' x cv:=by
 unfold ux;split
 .exact⟨by simp[cO],h0.2⟩
 .exact⟨by simp[cO],h0.2⟩
 .rename_i Y I;unfold aW;split
  .exact absurd rfl (Y _ _ _ _ _ _ rfl)
  .exact absurd rfl (I _ _ rfl)
  .trivial
theorem wm {b cs}(h:qw hp b=En cs):hp[b]?=En (.cells cs):=by
 unfold qw at h;split at h
 .rename_i eF h';cases h;exact h'
 .cases h
theorem A3 {b x h'}(h:j0 hp b x=En h'):h'=hp.set b x:=by
 unfold j0 at h
 cases hb:Eah b hp.length with
 |false=>simp[hb]at h|true=>simpa[hb]using h.symm
theorem bM.store {ω':Nat->Option Loc}{B b r off:Nat}{cs:List (AVal×Bool)}{us:List AVal}{news:List Value}{fl:List Bool}{vs:Array Value}{t:TypeId}(Nk:fl.length=us.length)(Q:bj C us news)(Y:∀v∈news,v.oneCell'=Hc)
  (hl:off+us.length<=cs.length) (db:cs.length<=vs.size) (hold:∀j c,cs[j]?=En c->∃v,vs[j]?=En v/\v.oneCell'=Hc/\bS C c.1 v/\(c.2=Hc->aW C ω' w' B (.cell b j) c.1 v))
  (dx:∀j u v,us[j]?=En u->news[j]?=En v->fl[j]?=En Hc->aW C ω' w' B (.cell b (off+j)) u v)
  (hg:w'.heap[r]?=En (.cells (vs.toList.take off++news++vs.toList.drop (off+news.length)).toArray t (0,0))):
  bM P C ω' w' B b r (.cells (cs.take off++us.zip fl++cs.drop (off+us.length))):=by
 have nY:=Q.length;refine⟨_,t,hg,?_,?_⟩
 .simp;omega
 .intro j c hc;rw[Jw]at hc
  have e1:(Eag off cs).length=off:=by simp;omega
  have e2:(us.zip fl).length=us.length:=by simp[Nk]
  have f1:(Eag off vs.toList).length=off:=by simp;omega
  simp only[I2,Jw];by_cases hj:j<off
  .rw[If (by omega),Jl hj]at hc;obtain⟨v,J,a2,a3,a4⟩:=hold j c hc;exact⟨v,by rw[If (by omega),Jl hj,Iy];exact J,a2,a3,a4⟩
  .rw[Iw (by omega),e1]at hc;by_cases hj2:j<off+us.length
   .rw[If (by omega)]at hc;have dU:=List.getElem?_zip_eq_some.1 hc;obtain⟨v,J,a2⟩:=Q.get dU.1;refine⟨v,by rw[Iw (by omega),f1,If (by omega)];exact J,Y v (Jv J),a2,fun hf=>?_⟩;have:=dx (j-off) c.1 v dU.1 J (by rw[dU.2,hf]);rw[show off+(j-off)=j from by omega]at this;exact this
   .rw[Iw (by omega),e2,Ud]at hc;rw[show off+us.length+(j-off-us.length)=j from by omega]at hc;obtain⟨v,J,a2,a3,a4⟩:=hold j c hc;exact⟨v,by rw[Iw (by omega),f1,Iw (by omega),Ud,show off+news.length+(j-off-news.length)=j from by omega,Iy];exact J,a2,a3,a4⟩
theorem jhb (us:List AVal):us.zip (H3 us.length Hb)=us.map (·,Hb):=by
 induction us with
 |nil=>rfl|cons x us ih=>simp only[List.length_cons,J2,List.zip_cons_cons,ih,Ug]
theorem q7a (m:aA P C ω w0 C0 hp w)(e:ar C ω w w0.heap.size env tmps){b r off:Nat}{cs:List (AVal×Bool)}{us:List AVal}{news:List Value}(hb:hp[b]?=En (.cells cs))(Q:C.β b=En r)(hO:bj C us news)(Y:∀v∈news,v.oneCell'=Hc)(hl:off+us.length<=cs.length):
  ∃vs t,w.heap[r]?=En (.cells vs t (0,0))/\off+news.length<=vs.size /\
   aA P C ω w0 C0 (hp.set b (.cells (cs.take off++us.map (·,Hb)++cs.drop (off+us.length)))) (w.setRow r (vs.toList.take off++news++vs.toList.drop (off+news.length)).toArray) /\
   ar C ω (w.setRow r (vs.toList.take off++news++vs.toList.drop (off+news.length)).toArray) w0.heap.size env tmps:=by
 obtain⟨vs,t,hg,db,hold⟩:=m.box b _ r hb Q;have hu:=HR hg (vs.toList.take off++news++vs.toList.drop (off+news.length)).toArray;have nY:=hO.length;refine⟨vs,t,hg,by omega,m.dX hu.hZ Q _ (fun b' j y v _ h=>h) ?_,e.dK hu.hZ Q⟩;rw[<-jhb];refine bM.store (by simp) hO Y hl db (fun j c hc=>?_) (fun j u v _ _ hf=>?_) (setRow_heap w r vs _ t (0,0) hg)
 .obtain⟨v,J,a2,a3,a4⟩:=hold j c hc;exact⟨v,J,a2,a3,fun h=>(a4 h).dK hu.hZ Q⟩
 .rw[List.getElem?_replicate]at hf;split at hf<;>cases hf
theorem TD {t te:TypeId}{n r off v vs}(hn:js P t=En n)(hl:v.cells.toList.length=n)(hg:w.heap[r]?=En (.cells vs te (0,0)))(cH:off+v.cells.toList.length<=vs.size)(Y:∀u∈v.cells.toList,u.oneCell'=Hc):
  (storeVar t ⟨r,off,Ha⟩ v).run P w=.ok () (w.setRow r (vs.toList.take off++v.cells.toList++vs.toList.drop (off+v.cells.toList.length)).toArray):=by
 have ct:=run_storeCells_at (P:=P) r off te v.cells.toList 0 vs w hg (by simpa using cH) Y;simp only[Z4]at ct
 have:¬(v.cells.size≠n):=by simp at hl;simpa using hl
 simp only[storeVar,Sem.run_bind,yz hn,Result.andThen_ok,this,if_false,Sem.run_ite,ct]
theorem jju (m:aA P C ω w0 C0 hp w)(e:ar C ω w w0.heap.size env a.tmps){t:TypeId}{x y x' y' n b q v cs eF h'}(ho:o.op=.store t x y)(hn:js P t=En n)
  (Y:qq x=En x') (I:qq y=En y') (e1:qh env x'=En (.ptr b q)) (e2:qh env y'=En v) (jN:qw hp b=En cs) (wh:v.flat.length=n) (ct:jw cs q v.flat=En eF) (bK:j0 hp b (.cells eF)=En h'):
  ∃w',(execOp a.eval o).run P w=.ok .skip w'/\zu P C0 w0 C a.tmps d env ⟨.undef,Hb,Ha,h'⟩ undef w':=by
 obtain⟨r,Q,hq⟩:=(qt e.cw Y e1).dr;unfold jw at ct
 cases hb:(Y9 (q+v.flat.length) cs.length&&v.flat.all qk)with
 |false=>simp[hb]at ct
 |true=>
  simp only[hb,cond_true,En.injEq]at ct;simp only[I6]at hb;subst ct;have ry:=AU (qt e.cw I e2) hb.2;have de:=AW ry (by simpa using hb.2);obtain⟨vs,te,hg,cH,m',e'⟩:=q7a m e (wm jN) Q ry de (Nx hb.1);obtain rfl:=A3 bK;have bF:=TD (P:=P) hn (by rw[ry.length,wh]) hg cH de;exact⟨_,by simp[execOp,ho,Instr.storeAt,hq,Instr.sureAddr,bF],C,ω,aQ.le_refl C,m',e',.undef,by simp⟩
theorem q69 (m:aA P C ω w0 C0 hp w)(e:ar C ω w w0.heap.size env a.tmps){t:TypeId}{x y:Operand}{x' y':ju}{b q s:Nat}{v:AVal}{cs:List (AVal×Bool)}{h':qf}(ho:o.op=.store t x y)(hn:js P t=En 1)
  (Y:qq x=En x') (I:qq y=En y') (e1:qh env x'=En (.ptr b q)) (e2:qh env y'=En v) (jN:qw hp b=En cs) (hv:v.cP=Hc) (bg:q<cs.length) (cZ:z5 env y'=En s) (bK:j0 hp b (.cells (cs.set q (v,Hc)))=En h'):
  ∃w',(execOp a.eval o).run P w=.ok .skip w'/\zu P C0 w0 C a.tmps d env ⟨.undef,Hb,En s,h'⟩ undef w':=by
 obtain⟨r,Q,hq⟩:=(qt e.cw Y e1).dr;have ry:=qt e.cw I e2;obtain⟨A4,v0,hl⟩:=HU cZ
 have iL:v0=v:=by subst A4;simp only[qh,hl]at e2;exact En.inj e2
 subst iL
 have kY:v0.flat=[v0]:=by cases v0<;>simp[AVal.cP]at hv<;>rfl
 have hsc:qk v0=Hc:=by cases v0<;>simp[AVal.cP]at hv<;>rfl
 have rf:=AU ry (by rw[kY];simpa using hsc);rw[kY]at rf;have de:=AW rf (by simpa using hsc)
 have eh:(a.eval y).cells.toList=[a.eval y]:=by
  have:=Tx ry hsc;cases hh:a.eval y<;>simp[hh,Value.oneCell']at this<;>rfl
 obtain⟨cv,xU,Ng,AZ⟩:=e s _ hl
 have pK:a.eval y=cv:=by
  have A5:qq y=En (.tmp s):=by rw[I,A4]
  cases y with
  |tmp t'=>simp only[qq]at A5;cases A5;simp[Act.eval,I3,xU]|const u=>simp only[qq]at A5;split at A5<;>cases A5|func f=>simp[qq]at A5|global g=>simp[qq]at A5
 obtain⟨vs,te,hg,db,hold⟩:=m.box b _ r (wm jN) Q;have hu:=HR hg (vs.toList.take q++[a.eval y]++vs.toList.drop (q+1)).toArray
 have dQ:(a.eval y).cells.toList.length=1:=by rw[eh];rfl
 have bF:=TD (P:=P) (t:=t) (off:=q) hn dQ hg (by omega) de;rw[dQ,eh]at bF;obtain rfl:=A3 bK;have xX:=AZ rfl;have oS:∀ℓ z u,ℓ≠.slot s->aW C ω w w0.heap.size ℓ z u->aW C (ux ω v0 cv (.cell b q)) w w0.heap.size ℓ z u:=fun ℓ z u hℓ hz=>xW xX hℓ hz;have dx:aW C (ux ω v0 cv (.cell b q)) w w0.heap.size (.cell b q) v0 cv:=Nj xX
 have hcs:cs.take q++[(v0,Hc)]++cs.drop (q+1)=cs.set q (v0,Hc):=by
  rw[List.set_eq_take_append_cons_drop,if_pos bg];simp
 refine⟨w.setRow r (vs.toList.take q++[a.eval y]++vs.toList.drop (q+1)).toArray,by simp only[execOp,ho,Instr.storeAt,Sem.run_bind,hq,Instr.sureAddr,Sem.run_pure,Result.andThen_ok,bF],C,ux ω v0 cv (.cell b q),aQ.le_refl C,?_,?_,.undef,by simp⟩
 .refine m.dX hu.hZ Q _ (fun b' j z u fq hz=>oS _ z u (by simp) hz) ?_;rw[<-hcs];have hz:[(v0,Hc)]=[v0].zip [Hc]:=rfl;rw[hz];refine bM.store (us:=[v0]) (fl:=[Hc]) (news:=[a.eval y]) rfl (by rw[<-eh];exact rf) (by rw[<-eh];exact de) (by simp;omega) db (fun j c hc=>?_) (fun j u v H8 oO _=>?_) (setRow_heap w r vs _ te (0,0) hg)
  .obtain⟨v,J,a2,a3,a4⟩:=hold j c hc;exact⟨v,J,a2,a3,fun h=>(oS _ _ _ (by simp) (a4 h)).dK hu.hZ Q⟩
  .cases j with
   |zero=>
    simp at H8 oO;subst H8;subst oO;have h3:=dx.dK hu.hZ Q;exact pK▸h3
   |succ j=>simp at H8
 .intro t' x' fp;by_cases mN:t'=s
  .subst mN;simp only[yh,hl,jn,Ur,cond_true]at fp;cases fp;exact⟨cv,xU,Ng,by simp⟩
  .have fV:jn t' env=En x':=by
    simp only[yh,hl,jn]at fp
    have:I9 s t'=Hb:=by
     cases hb:I9 s t' with
     |false=>rfl|true=>exact absurd (H2 hb).symm mN
    rw[this]at fp;exact fp
   obtain⟨u,k1,k2,k3⟩:=e t' x' fV;exact⟨u,k1,k2,fun h=>(oS _ _ _ (by simp[mN]) (k3 h)).dK hu.hZ Q⟩
end
section
variable {P:Program}{C C0:aQ}{ω:Nat->Option Loc}{w w' w0:World}{hp:qf}{env:Env}{a:Act}{o:Oper}{tmps:Array Value}{d:Loc}
theorem q42 {s v ow}(hl:jn s env=En (v,ow)){t x}(M:jn t (yh env (En s))=En x):(t=s/\x=(v,Hb))\/(t≠s/\jn t env=En x):=by
 simp only[yh,hl,jn]at M
 cases hb:I9 s t with
 |true=>
  simp only[hb,cond_true,En.injEq]at M;exact .inl ⟨(H2 hb).symm,M.symm⟩
 |false=>
  simp only[hb,cond_false]at M;refine .inr ⟨fun h=>?_,M⟩;subst h;simp at hb
theorem jps (m:aA P C ω w0 C0 hp w)(e:ar C ω w w0.heap.size env a.tmps){s v ow}(ho:o.op=.move (.tmp s)\/o.op=.assign (.tmp s))(hl:jn s env=En (v,ow)):
  ∃u w',(execOp a.eval o).run P w=.ok (.value u) w'/\zu P C0 w0 C a.tmps d env ⟨v,ow,En s,hp⟩ u w':=by
 obtain⟨cv,Y,I,h3⟩:=e s _ hl
 have eR:a.eval (.tmp s)=cv:=by simp[Act.eval,I3,Y]
 have bF:(execOp a.eval o).run P w=.ok (.value cv) w:=by rcases ho with ho|ho<;>simp[execOp,ho,eR]
 refine⟨cv,w,bF,?_⟩;by_cases hk:ow=Hc
 .subst hk;have cZ:=h3 rfl;refine⟨C,ux ω v cv d,aQ.le_refl C,?_,?_,I,fun _=>Nj cZ⟩
  .exact { m with box:=fun b x r M hb=>(m.box b x r M hb).mono (aQ.le_refl C) fun j y u hz=>xW cZ (by simp) hz }
  .intro t x M;rcases q42 hl M with⟨rfl,rfl⟩|⟨bG,fp⟩
   .exact⟨cv,Y,I,by simp⟩
   .obtain⟨u,k1,k2,k3⟩:=e t x fp;exact⟨u,k1,k2,fun h=>xW cZ (by simpa using bG) (k3 h)⟩
 .refine⟨C,ω,aQ.le_refl C,m,e.strip _,I,fun h=>absurd h hk⟩
theorem q7b (m:aA P C ω w0 C0 hp w)(e:ar C ω w w0.heap.size env a.tmps){t:TypeId}{x x' b q v ow cs h'}(ho:o.op=.load t x)(dh:y5 P t=En Hb)
  (Y:qq x=En x') (e1:qh env x'=En (.ptr b q)) (jN:qw hp b=En cs) (hc:cs[q]?=En (v,ow)) (bK:j0 hp b (.cells (cs.set q (v,Hb)))=En h'):
  ∃u w',(execOp a.eval o).run P w=.ok (.value u) w'/\zu P C0 w0 C a.tmps d env ⟨v,ow,Ha,h'⟩ u w':=by
 obtain⟨r,Q,hq⟩:=(qt e.cw Y e1).dr;obtain⟨vs,te,hg,db,hold⟩:=m.box b _ r (wm jN) Q;obtain⟨cv,k1,k2,k3,k4⟩:=hold q _ hc;obtain rfl:=A3 bK
 have eh:w.cell? ⟨r,q,Ha⟩=En cv:=by
  simp only[World.cell?,hg];simpa using k1
 have bF:(execOp a.eval o).run P w=.ok (.value cv) w:=by
  simp[execOp,ho,hq,Instr.loadAt,Instr.sureAddr,H0 dh eh]
 have hu:nZ w w r:=⟨rfl,fun _ _=>rfl,fun c t fr h=>by rw[hg]at h;cases h;rfl,rfl,rfl⟩
 have gQ:∀ω':Nat->Option Loc,(∀j c u,j≠q->aW C ω w w0.heap.size (.cell b j) c u->aW C ω' w w0.heap.size (.cell b j) c u)->bM P C ω' w w0.heap.size b r (.cells (cs.set q (v,Hb))):=by
  intro ω' hk;refine⟨vs,te,hg,by simpa using db,fun j c hj=>?_⟩;rw[Eab]at hj;split at hj
  .rename_i TE;subst TE;split at hj
   .cases hj;exact⟨cv,k1,k2,k3,by simp⟩
   .cases hj
  .rename_i TE;obtain⟨u,J,a2,a3,a4⟩:=hold j c hj;exact⟨u,J,a2,a3,fun h=>hk _ _ _ (Uh TE) (a4 h)⟩
 refine⟨cv,w,bF,?_⟩;by_cases hk:ow=Hc
 .subst hk;have cZ:=k4 rfl;refine⟨C,ux ω v cv d,aQ.le_refl C,?_,?_,k3,fun _=>Nj cZ⟩
  .exact m.dX hu Q _ (fun b' j y u fq hz=>xW cZ (by simp[fq]) hz) (gQ _ fun j c u hj hz=>xW cZ (by simp[hj]) hz)
  .exact fun t x M=>let ⟨u,k1,k2,k3⟩:=e t x M; ⟨u,k1,k2,fun h=>xW cZ (by simp) (k3 h)⟩
 .refine⟨C,ω,aQ.le_refl C,m.dX hu Q _ (fun _ _ _ _ _ h=>h) (gQ _ fun _ _ _ _ h=>h),e,k3,fun h=>absurd h hk⟩
end
section
variable {P:Program}{C C0:aQ}{ω:Nat->Option Loc}{w w' w0:World}{hp:qf}{env:Env}{a:Act}{o:Oper}{tmps:Array Value}{d:Loc}
theorem q3j (m:aA P C ω w0 C0 hp w)(e:ar C ω w w0.heap.size env a.tmps){t el:TypeId}{x y:Operand}{x' y':ju}{n sz b h0 rk:Nat}{z h'}
  (ho:o.op=.makeSlice t x y) (ht:P.underlying t=En (.slice el)) (hn:js P el=En sz) (hb:oL P el=En b) (hz:y7 P el=En z) (TF:0<sz) (il:z.length=sz)
  (Y:qq x=En x') (I:qq y=En y') (e1:qh env x'=En (.int .i64 (n:Int))) (e2:qh env y'=En (.int .i64 (n:Int))) (hle:n<=1073741824) (iq:b<=4096)
  (dx:aO h0 hp rk (.cells (cellsOf (H3 n z).flatten))=En h'):
  ∃v w',(execOp a.eval o).run P w=.ok (.value v) w'/\zu P C0 w0 C a.tmps d env ⟨.ms (h0+rk) 0 n,Hb,Ha,h'⟩ v w':=by
 obtain⟨hh,rfl⟩:=ke dx;obtain⟨sx,zv,mf,cR,gh⟩:=uv (C:=C) hz
 have nU:zv.cells.toList.length=sz:=by rw[cR.length,il]
 have kU:((Jc (n*sz)).map (fun i=>zv.cells[i % zv.cells.size]!)).toList=(H3 n zv.cells.toList).flatten:=by
  have:=Nd nU TF n;simpa using this
 have r1:=(qt e.cw Y e1).bU;have r2:=(qt e.cw I e2).bU
 have gi:bj C (H3 n z).flatten ((Jc (n*sz)).map (fun i=>zv.cells[i % zv.cells.size]!)).toList:=by
  rw[kU];exact cR.replicate n
 obtain⟨i,hi,sC⟩:∃i,P.info? el=En i/\i.bytes=b:=by
  unfold oL at hb
  cases hi:P.info? el with
  |none=>simp[hi]at hb|some i=>exact⟨i,rfl,by simpa[hi]using hb⟩
 have lD:i.size=sz:=by
  unfold js at hn;rw[hi]at hn;simpa using hn
 have sD:IntKind.i64.wrap (n:Int)=n:=by
  rw[<-xR];unfold qd
  have:si .i64 (n:Int)=Hc:=by simp[si];exact Jy hle (by decide)
  rw[this];rfl
 have AO:b*n<=281474976710656:=Jy (Nz iq hle) (by decide)
 obtain⟨m',e',cU⟩:=m.aO e hh (.cells ((Jc (n*sz)).map (fun i=>zv.cells[i % zv.cells.size]!)) el) (fun c t fr h=>by cases h;rfl) (.cells (cellsOf (H3 n z).flatten))
  (TC gi (by
   intro x h;rw[Uo]at h;obtain⟨l,q1,q2⟩:=h;obtain⟨_,rfl⟩:=Le.1 q1
   exact sx x q2) (by intro j v h;rw[Iy]at h;exact h) (by have:=gi.length;simp at this;simp;omega))
 refine⟨.slice (En ⟨w.heap.size,0,Ha⟩) n n,w.alloc (.cells ((Jc (n*sz)).map (fun i=>zv.cells[i % zv.cells.size]!)) el),?_,_,_,cU,m',e',.ms _ _ _ _ _ (by simp[aQ.box]) (Ix _),by simp⟩
 have c1:¬((b:Int)*(n:Int) > 2^48):=by
  have Y:((b*n:Nat):Int)<=281474976710656:=Int.ofNat_le.2 AO;rw[Int.natCast_mul]at Y
  have I:(2:Int)^48=281474976710656:=by decide
  rw[I];omega
 have c2:¬((n:Int)<0):=by omega
 have Q:Jc 0=#[]:=rfl;simp only[execOp,ho,Instr.makeSlice,Sem.run_bind,run_underlying ht,r1,r2,asInt,asIntOf,Sem.run_pure,Result.andThen_ok,typeInfo,run_program,hi,sC,sD,c2,c1,decide_false,Eaf,Jd,if_false,Int.lt_irrefl,gt_iff_lt,run_askRoom,Int.toNat_natCast,yz hn,newRow];by_cases AR:n=0
 .subst AR;simp[Q]
 .have bG:¬(n*sz=0):=by
   intro h;rcases Ut.1 h with h|h<;>omega
  simp[bG,mf]
theorem j56 (m:aA P C ω w0 C0 hp w)(e:ar C ω w w0.heap.size env tmps){b r s cells}{t:TypeId}{us news}(hh:hp[b]?=En .hole)(hω:ω r=En (.slot s))(hB:w0.heap.size<=r\/C.W r)(hβ:∀b,C.β b≠En r)
  (hg:w.heap[r]?=En (.cells cells t (0,0))) (hK:∀o,C.K r o=Ha) (cH:news.length<=cells.size) (hO:bj C us news) (de:∀v∈news,v.oneCell'=Hc):
  aA P (C.box b r) ω w0 C0 (hp.set b (.cells (cellsOf us))) (w.setRow r (cells.toList.take 0++news++cells.toList.drop (0+news.length)).toArray) /\
  ar (C.box b r) ω (w.setRow r (cells.toList.take 0++news++cells.toList.drop (0+news.length)).toArray) w0.heap.size (yh env (En s)) tmps/\C.le (C.box b r):=by
 have hu:=HR hg (cells.toList.take 0++news++cells.toList.drop (0+news.length)).toArray;have mP:=setRow_heap w r cells (cells.toList.take 0++news++cells.toList.drop (0+news.length)).toArray t (0,0) hg;generalize w.setRow r (cells.toList.take 0++news++cells.toList.drop (0+news.length)).toArray=w' at hu mP;have TG:=H5 m hh;have hle:=aQ.lE (C:=C) (r:=r) TG;have bg:b<hp.length:=(Iq.1 hh).1;have TH:r<w.heap.size:=(I7.1 hg).1
 have cZ:∀ℓ x v,ℓ≠.slot s->aW C ω w w0.heap.size ℓ x v->aW (C.box b r) ω w' w0.heap.size ℓ x v:=by
  intro ℓ x v hℓ ho
  have bG:ω r≠En ℓ:=by rw[hω];intro h;exact hℓ (En.inj h).symm
  exact(ho.box (.inr bG)).hZ hu bG
 refine⟨?_,?_,hle⟩
 .refine { base:=m.base,know:=?_,dk:=m.dk,apart:=?_,inj:=?_,lt:=?_,size:=?_,frame:=?_,fA:=?_,os:=hu.os.trans m.os,output:=hu.output.trans m.output,fresh:=?_,grown:=aQ.le_trans m.grown hle,old:=m.old,box:=?_,iJ:=fun q hq=>by rw[hu.size];exact m.iJ q hq }
  .intro k q v hk
   have iu:k≠r:=fun h=>by
    have fc:C.K k q=En v:=hk;rw[h,hK q]at fc;cases fc
   have hc:=m.know _ _ _ hk;simp only[World.cell?]at hc ⊢;rw[hu.other k iu];exact hc
  .intro k q p hk;simp only[aQ.box]at hk;split at hk
   .cases hk;exact hK p
   .exact m.apart k q p hk
  .intro k k' q hk fc;simp only[aQ.box]at hk fc;split at hk<;>split at fc
   .rename_i Y I;rw[Y,I]
   .cases hk;exact absurd fc (hβ k')
   .cases fc;exact absurd hk (hβ k)
   .exact m.inj k k' q hk fc
  .intro k q hk;rw[Qc,hu.size];simp only[aQ.box]at hk;split at hk
   .rename_i Y;cases hk;subst Y;exact⟨TH,bg⟩
   .exact m.lt k q hk
  .rw[hu.size];exact m.size
  .intro k hk hn hw
   have iu:k≠r:=fun h=>by
    subst h;rcases hB with h|h
    .omega
    .rw[m.grown.w]at h;exact hw h
   rw[hu.other k iu];exact m.frame k hk hn hw
  .intro k hk
   have iu:k≠r:=fun h=>by
    subst h;have:=m.fA k hk;rw[hg]at this;cases this
   rw[hu.other k iu];exact m.fA k hk
  .intro k q hk;simp only[aQ.box]at hk;split at hk
   .cases hk;rcases hB with h|h
    .exact .inr (.inl h)
    .rw[m.grown.w]at h;exact .inr (.inr h)
   .exact m.fresh k q hk
  .intro k x q M hk;simp only[aQ.box]at hk;split at hk
   .rename_i Y;subst Y;cases hk;rw[Jb bg]at M;cases M;have nY:=hO.length;refine⟨_,t,mP,by simp[cellsOf];omega,?_⟩;intro j c hc;simp only[cellsOf,Ll,E6]at hc;obtain⟨x,M,rfl⟩:=hc;obtain⟨v,Y,I⟩:=hO.get M;have hj:j<news.length:=(Iq.1 Y).1;refine⟨v,?_,de v (Jv Y),aM.mono hle I,by simp⟩;simp only[List.take_zero,Qf,I2];rw[If hj];exact Y
   .rename_i Y;rw[Jz (Uh Y)]at M;have bG:q≠r:=fun h=>hβ k (h▸hk);have jM:bM P C ω w' w0.heap.size k q x:=(m.box k x q M hk).hZ hu bG (fun j=>by rw[hω];simp);exact jM.mono hle fun j y v ho=>ho.box (.inr (by rw[hω];simp))
 .intro t' x M;by_cases mN:t'=s
  .subst mN;simp only[yh]at M
   cases hl:jn t' env with
   |none=>rw[hl]at M;simp only[hl]at M;cases M
   |some y=>
    rw[hl]at M;simp only[jn,Ur,cond_true]at M;cases M;obtain⟨v,I,h3,_⟩:=e t' y hl;exact⟨v,I,aM.mono hle h3,by simp⟩
  .have fp:jn t' env=En x:=by
    simp only[yh]at M
    cases hl:jn s env with
    |none=>rw[hl]at M;exact M
    |some y=>
     rw[hl]at M;simp only[jn]at M
     have:I9 s t'=Hb:=by
      cases hb:I9 s t' with
      |false=>rfl|true=>exact absurd (H2 hb).symm mN
     rw[this]at M;exact M
   obtain⟨v,I,h3,h4⟩:=e t' x fp;exact⟨v,I,aM.mono hle h3,fun h=>cZ _ _ _ (by simp[mN]) (h4 h)⟩
theorem ja5 {xs vs}{t:TypeId}{B b r cells}(Q:bj C xs vs)(de:∀v∈vs,v.oneCell'=Hc)(hv:∀(j:Nat) v,vs[j]?=En v->cells[j]?=En v)(hl:xs.length<=cells.size):
  ∀C' ω' w',C.le C'->w'.heap[r]?=En (.cells cells t (0,0))->bM P C' ω' w' B b r (.cells (cellsOf xs)):=by
 intro C' ω' w' hle hg;refine⟨cells,t,hg,by simpa[cellsOf]using hl,?_⟩;intro j c hc;simp only[cellsOf,Ll,E6]at hc;obtain⟨x,M,rfl⟩:=hc;obtain⟨v,Y,I⟩:=Q.get M;exact⟨v,hv j v Y,de v (Jv Y),aM.mono hle I,by simp⟩
theorem q4y (m:aA P C ω w0 C0 hp w)(e:ar C ω w w0.heap.size env a.tmps){c}{t u el:TypeId}{ut:TypeDesc}{x y x' y' sz b h0 rk n df ys vy h'}
  (ho:o.op=.call c) (ea:c.callee=.builtin .append) (ep:c.args.toList=[x,y]) (eQ:c.argTypes.toList=[t,u]) (ht:P.underlying t=En (.slice el)) (hu:P.underlying u=En ut) (jX:AF ut=Hc)
  (hn:js P el=En sz) (hb:oL P el=En b) (Y:qq x=En x') (I:qq y=En y') (e1:qh env x'=En (.list n df [])) (e2:qh env y'=En vy) (cT:yg sz vy=En ys)
  (cZ:(z5 env x').isSome=Hc) (TI:n=Hb) (hlen:ys.length<=1073741824) (iq:b<=4096) (hzero:∃z,y7 P el=En z/\z.length=sz) (A0:sz=df)
  (dx:aO h0 hp rk (.cells (cellsOf (ys.flatMap AVal.flat)))=En h'):
  ∃v w',(execOp a.eval o).run P w=.ok (.value v) w'/\zu P C0 w0 C a.tmps d env ⟨.ms (h0+rk) 0 ys.length,Hb,z5 env x',h'⟩ v w':=by
 obtain⟨hh,rfl⟩:=ke dx;subst TI;subst A0
 have ha:c.args=#[x,y]:=by apply Ja;simpa using ep
 have mK:c.argTypes=#[t,u]:=by apply Ja;simpa using eQ
 obtain⟨i,hi,sC⟩:∃i,P.info? el=En i/\i.bytes=b:=by
  unfold oL at hb
  cases hi:P.info? el with
  |none=>simp[hi]at hb|some i=>exact⟨i,rfl,by simpa[hi]using hb⟩
 have lD:i.size=sz:=by
  unfold js at hn;rw[hi]at hn;simpa using hn
 obtain⟨z,hz,A1⟩:=hzero
 obtain⟨zv,nX⟩:∃zv,i.zero=En zv:=by
  unfold y7 at hz;rw[hi]at hz
  cases hq:i.zero with
  |none=>simp[hq]at hz|some v=>exact⟨v,rfl⟩
 have rx:=qt e.cw Y e1;have ry:=qt e.cw I e2;obtain⟨news,G,dc,fP,de⟩:=Nf m hu jX cT ry
 have fb:∀ {z:Value} {w':World},(Builtin.append_ #[t,u] o.type #[a.eval x,a.eval y]).run P w=.ok z w'->(execOp a.eval o).run P w=.ok (.value z) w':=by
  intro z w' h;simp[execOp,ho,resolve,ea,ha,mK,invoke,builtin,h]
 have nY:news.length=ys.length*sz:=by rw[dc.length,yv ys fP]
 rcases rx.cQ with⟨TJ,_,_⟩|⟨_,r,q,cap,M,hle,cY⟩|⟨_,_,ad,kQ,M⟩
 rotate_right
 .exact absurd (q7p e Y cZ e1 M) kQ
 .cases TJ
 .obtain⟨s,gC⟩:=Qm.1 cZ;obtain⟨fp,v0,hl⟩:=HU gC
  have iL:v0=.list Hb sz []:=by
   subst fp;simp only[qh,hl]at e1;exact En.inj e1
  subst iL;obtain⟨cv,xU,Ng,AZ⟩:=e s _ hl
  have pK:cv=.slice (En ⟨r,q,Ha⟩) 0 cap:=by
   have iM:qq x=En (.tmp s):=by rw[Y,fp]
   cases x with
   |tmp t'=>
    simp only[qq]at iM;cases iM
    have:a.eval (.tmp s)=cv:=by simp[Act.eval,I3,xU]
    rw[<-this,M];rfl
   |const u=>simp only[qq]at iM;split at iM<;>cases iM|func f=>simp[qq]at iM|global g=>simp[qq]at iM
  subst pK;obtain⟨hω,hB,hβ,_,Nh,⟨cells,te,hg,cH⟩,hK⟩:=AZ rfl;simp only at hω hB hβ hg cH hK Nh;subst Nh;simp only[List.length_nil]at M;by_cases eC:0+ys.length<=cap
  .have gP:(0+ys.length)*sz<=cap*sz:=I5 _ eC;have bF:=Ty (P:=P) (w:=w) (ty:=o.type) ht hi r 0 0 cap (a.eval y) ys.length news (lD▸G) eC hg (by rw[nY];simp at gP cH ⊢;omega);rw[<-M]at bF
   have e0:0+0*i.size=0:=by simp
   rw[e0]at bF;obtain⟨m',e',cU⟩:=j56 (tmps:=a.tmps) m e hh hω hB hβ hg (fun o=>hK o (by simp)) (by rw[nY];simp at gP cH ⊢;omega) dc de;rw[gC];refine⟨_,_,fb bF,_,_,cU,m',e',?_,by simp⟩;have:=aM.ms (C:=C.box (h0+rk) r) (h0+rk) 0 ys.length r cap (by simp[aQ.box]) (by omega);simpa using this
  .have H9:Builtin.nextslicecap (0+ys.length) cap*i.bytes<=281474976710656:=growslice_fits (by omega) (by
    rw[sC]
    exact Jy (Nz (by omega) iq) (by decide:2^30*4096<=_))
   have bF:=run_append_grow_src w t u o.type el i zv ht hi nX (En ⟨r,0,Ha⟩) 0 cap [] (run_firstCells_some _ _ _ _ _ _ [] (by simp) (by simp)) (a.eval y) ys.length news (lD▸G) (by omega) (by omega) H9;rw[<-M]at bF;have oR:=grownCap_ge w (0+ys.length) cap el;have fV:Ext w w.drew:=Ext.drew w
   obtain⟨m',e',cU⟩:=(m.ext fV).aO (e.ext fV) hh (.cells (([]++news).toArray++Builtin.zeroCells zv.cells (grownCap w (0+ys.length) cap el-(0+ys.length))) el) (fun c t fr h=>by cases h;rfl) (.cells (cellsOf (ys.flatMap AVal.flat)))
    (ja5 dc de (by
     intro j v hj;rw[Jx (by simpa using(Iq.1 hj).1)]
     simpa using hj) (by have h5:=dc.length;rw[Ui];simp only[Qf,S8];omega))
   refine⟨_,_,fb bF,_,_,cU,m',e'.strip _,?_,by simp⟩;have:=aM.ms (C:=C.box (h0+rk) w.drew.heap.size) (h0+rk) 0 ys.length w.drew.heap.size (grownCap w (0+ys.length) cap el) (by simp[aQ.box]) (by omega);simpa using this
end
section
variable {P:Program}{C C0:aQ}{ω:Nat->Option Loc}{w w' w0:World}{hp:qf}{env:Env}{a:Act}{o:Oper}{tmps:Array Value}{d:Loc}
theorem Nn {b bN len v}(h:bS C (.ay b bN len) v):∃r0 r cap,C.β b=En r0/\C.T (r0,bN,r,cap)/\len<=cap/\v=.slice (En ⟨r,0,Ha⟩) len cap:=by
 cases h with
 |ay _ _ _ r0 r cap hb ht hl=>exact⟨r0,r,cap,hb,ht,hl,rfl⟩
theorem jbs {b bN off v}(h:bS C (.dT b bN off) v):∃r0 r cap,C.β b=En r0/\C.T (r0,bN,r,cap)/\v=.pointer (En ⟨r,off,Ha⟩):=by
 cases h with
 |dT _ _ _ r0 r cap hb ht=>exact⟨r0,r,cap,hb,ht,rfl⟩
theorem q23 {t:TypeId}{x x' i fs f n b bN q}(he:bz C env a.tmps)(ho:o.op=.fieldAddr t x i)(ht:P.underlying t=En (.struct fs))(hf:fs[i]?=En f)
  (hn:js P f.type=En n) (AR:0<n) (Y:qq x=En x') (e1:qh env x'=En (.dT b bN q)):Val P C a o w (.dT b bN (q+f.offset)):=by
 obtain⟨r0,r,cap,hb,hT,hq⟩:=jbs (qt he Y e1);refine⟨.pointer (En ⟨r,q+f.offset,Ha⟩),?_,.dT _ _ _ r0 r cap hb hT⟩;simp[execOp,ho,Instr.fieldAt,run_underlying ht,hf,hq,Instr.sureAddr,fieldPlace,yz hn,Nat.pos_iff_ne_zero.1 AR,add_lit]
theorem q29 {t e:TypeId}{x i x' i' sz iv b bN len j}(he:bz C env a.tmps)(ho:o.op=.indexAddr t x i)(ht:P.underlying t=En (.slice e))
  (hn:js P e=En sz) (Y:qq x=En x') (I:qq i=En i') (e1:qh env x'=En (.ay b bN len)) (e2:qh env i'=En iv) (hj:idx len iv=En j):Val P C a o w (.dT b bN (j*sz)):=by
 obtain⟨r0,r,cap,hb,hT,_,hq⟩:=Nn (qt he Y e1);obtain⟨k,rfl,bg⟩:=HO hj;have hi:=(qt he I e2).bU;refine⟨.pointer (En ⟨r,j*sz,Ha⟩),?_,.dT _ _ _ r0 r cap hb hT⟩;simp[execOp,ho,Instr.indexAt,run_underlying ht,hq,hi,asIntOf,yz hn,bg,add_lit]
theorem jez {t e:TypeId}{x lo hi x' mJ gg sz j b bN len}(he:bz C env a.tmps)(ho:o.op=.slice t x lo hi Ha)(ht:P.underlying t=En (.slice e))
  (hn:js P e=En sz) (Y:qq x=En x') (I:nQ lo=En mJ) (h3:nQ hi=En gg) (e1:qh env x'=En (.ay b bN len)) (b2:fG env len len gg=En j) (b1:fG env 0 j mJ=En 0):Val P C a o w (.ay b bN j):=by
 obtain⟨r0,r,cap,hb,hT,hl,hq⟩:=Nn (qt he Y e1);obtain⟨iN,k1,k2⟩:=Na (P:=P) (isS:=true) he I h3 b2 b1 hl w;refine⟨.slice (En ⟨r,0,Ha⟩) j cap,?_,.ay _ _ _ r0 r cap hb hT (by omega)⟩;simp[execOp,ho,Instr.sliceAt,Instr.slice,run_underlying ht,hq,iN,yz hn,add_lit]
theorem joo {c x}{t e:TypeId}{x' b bN n}(he:bz C env a.tmps)(ho:o.op=.call c)(ea:c.callee=.builtin .len)(ep:c.args.toList=[x])(eQ:c.argTypes.toList=[t])
  (Y:qq x=En x') (e1:qh env x'=En (.ay b bN n)) (ht:P.underlying t=En (.slice e)):Val P C a o w (.int .i64 n):=by
 have ha:c.args=#[x]:=by apply Ja;simpa using ep
 have mK:c.argTypes=#[t]:=by apply Ja;simpa using eQ
 refine⟨.int .i64 n,?_,.int _ _⟩;simp only[execOp,ho,resolve,ea,ha,mK,Sem.run_bind,Sem.run_pure,Result.andThen_ok,invoke,builtin,Builtin.len_];obtain⟨r0,r,cap,_,_,_,hq⟩:=Nn (qt he Y e1);simp[run_underlying ht,hq,goInt]
theorem jlq (m:aA P C ω w0 C0 hp w){b bN q cap r0 sz xs}(hb:C.β b=En r0)(hT:C.T (r0,bN,q,cap))(gR:hp[b]?=En (.vec sz bN xs)):
  ∃vs,bj C (xs.flatMap AVal.flat) vs/\(∀(j:Nat) v,vs[j]?=En v->w.cell? ⟨q,j,Ha⟩=En v/\v.oneCell'=Hc)/\ez C.K w q sz xs cap:=by
 obtain⟨q',lF,k1,k2,k3,k4,_⟩:=m.box b _ r0 gR hb;have heq:=(k2 _ hT rfl).2 rfl;simp only[Prod.mk.injEq]at heq;obtain⟨rfl,rfl⟩:=heq;obtain⟨cells,t,vs,g1,g2,g3,g4,g5,g6,g7⟩:=id k3;refine⟨vs,aM.imp (C:=.bZ C.K) (C':=C) ⟨fun _ _ _ h=>h,fun b r h=>by cases h⟩ g5 (fun _ h=>h.elim),fun j v hj=>⟨?_,g7 v (Jv hj)⟩,k3⟩;unfold World.cell?;rw[g1];simp only[Lf,Jd,if_false];exact g6 j v hj
theorem q34 (m:aA P C ω w0 C0 hp w)(he:bz C env a.tmps){t:TypeId}{x x' n ag b bN q sz xs v}(ho:o.op=.load t x)(hg:y5 P t=En ag)(hn:js P t=En n)(Y:qq x=En x')(e1:qh env x'=En (.dT b bN q))
  (gR:hp[b]?=En (.vec sz bN xs)) (hl:q+n<=(xs.flatMap AVal.flat).length) (hv:(ag=Hc/\v=.agg (((xs.flatMap AVal.flat).drop q).take n))\/(ag=Hb/\((xs.flatMap AVal.flat).drop q).take n=[v])):Val P C a o w v:=by
 obtain⟨r0,r,cap,hb,hT,hq⟩:=jbs (qt he Y e1);obtain⟨vs,k1,k2,_⟩:=jlq m hb hT gR;have k3:bj C (((xs.flatMap AVal.flat).drop q).take n) ((vs.drop q).take n):=(k1.drop q).take n
 have k4:∀j u,((vs.drop q).take n)[j]?=En u->w.cell? ⟨r,q+j,Ha⟩=En u:=by
  intro j u hj;rw[Zo]at hj;split at hj
  .rw[Ud]at hj;exact(k2 _ _ hj).1
  .cases hj
 have k5:((vs.drop q).take n).length=n:=by rw[k3.length,Eac,List.length_drop];omega
 rcases hv with⟨rfl,rfl⟩|⟨rfl,hv⟩
 .exact⟨.agg ⟨(vs.drop q).take n⟩,by simp[execOp,ho,Instr.loadAt,hq,Instr.sureAddr,HZ hg hn k5 k4],.agg _ _ k3⟩
 .rw[hv]at k3;generalize hgen:(vs.drop q).take n=us at k3 k4 k5
  cases k3 with
  |cons _ _ u us hu lC=>
   cases lC;refine⟨u,?_,hu⟩;have:=H0 (P:=P) hg (by simpa using k4 0 u rfl);simp[execOp,ho,Instr.loadAt,hq,Instr.sureAddr,this]
def aQ.tok (C:aQ)(x:Nat×Nat×Nat×Nat):aQ:={ C with T:=fun q=>C.T q\/q=x }
theorem aQ.gS {x}:C.le (C.tok x):=⟨fun _ _ _ h=>h,fun _ _ h=>h,rfl,fun _ h=>h,fun _ h=>.inl h⟩
theorem aW.tok {x B ℓ y v}(h:aW C ω w B ℓ y v):aW (C.tok x) ω w B ℓ y v:=by
 unfold aW at *;exact h
theorem ar.tok {x B}(e:ar C ω w B env tmps):ar (C.tok x) ω w B env tmps:=
 fun s y hy=>let ⟨v,Y,I,h3⟩:=e s y hy; ⟨v,Y,aM.mono aQ.gS I,fun h=>(h3 h).tok⟩
theorem aA.sG (m:aA P C ω w0 C0 hp w){b r sz bN q cap xs}(hβ:C.β b=En r)(hT:∀x,C.T x->x.1=r->x.2.1<bN)(hv:ez C.K w q sz xs cap)(ho:q=r\/xP C ω w w0.heap.size b q xs.length cap)(Q:∃cs t,w.heap[r]?=En (.cells cs t (0,0))):
  aA P (C.tok (r,bN,q,cap)) ω w0 C0 (hp.set b (.vec sz bN xs)) w:=by
 have bg:=m.lt b r hβ;refine { m with lt:=fun k p hk=>by rw[Qc];exact m.lt k p hk,grown:=aQ.le_trans m.grown aQ.gS,box:=?_,iJ:=?_ }
 .intro k y p hy hk;by_cases mO:k=b
  .subst mO;rw[Jb bg.2]at hy;cases hy
   obtain rfl:r=p:=by have:C.β k=En p:=hk;rw[hβ]at this;exact En.inj this
   refine⟨q,cap,.inr rfl,fun x M hxr=>?_,hv,ho.imp id fun h=>h.tok,Q⟩;rcases M with M|rfl
   .have:=hT x M hxr;exact⟨by omega,fun h=>by omega⟩
   .exact⟨Ix _,fun _=>rfl⟩
  .rw[Jz (Uh mO)]at hy;have uo:p≠r:=fun h=>mO (m.inj k b p hk (h▸hβ));refine(m.box k y p hy hk).mono aQ.gS (fun j z u h=>h.tok) (fun x M hxp=>?_);rcases M with M|rfl
   .exact M
   .exact absurd hxp.symm uo
 .intro x M;rcases M with M|rfl
  .exact m.iJ x M
  .exact bg.1
theorem aA.sI (m:aA P C ω w0 C0 hp w){b r}(hβ:C.β b=En r)(Q:∃cs t,w.heap[r]?=En (.cells cs t (0,0))):aA P C ω w0 C0 (hp.set b .dead) w:=
 m.dX (ω':=ω) (w':=w) (r:=r) (b:=b) ⟨rfl,fun _ _=>rfl,fun c t fr h=>by obtain⟨cs,t',h'⟩:=Q;rw[h']at h;cases h;rfl,rfl,rfl⟩ hβ .dead (fun _ _ _ _ _ h=>h) Q
theorem aA.A6 (m:aA P C ω w0 C0 hp w){b q n cap cs}(hd:hp[b]?=En .dead)(ho:xP C ω w w0.heap.size b q n cap)(hu:gO w w' q cs):aA P C ω w0 C0 hp w':=by
 obtain⟨Y,I,h3,_,_,⟨cells,elem,h5,_⟩,h7⟩:=ho;simp only at Y I h3 h5 h7;have hK:∀o,C.K q o=Ha:=fun o=>h7 o (by simp);refine { base:=m.base,know:=?_,dk:=m.dk,apart:=m.apart,inj:=m.inj,lt:=?_,size:=?_,frame:=?_,fA:=?_,os:=hu.os.trans m.os,output:=hu.output.trans m.output,fresh:=m.fresh,grown:=m.grown,old:=m.old,box:=?_,iJ:=fun x M=>by rw[hu.size];exact m.iJ x M }
 .intro k p v hk
  have bG:k≠q:=fun h=>by rw[h,hK p]at hk;cases hk
  have hc:=m.know _ _ _ hk;simp only[World.cell?]at hc ⊢;rw[hu.other k bG];exact hc
 .intro k p hk;rw[hu.size];exact m.lt k p hk
 .rw[hu.size];exact m.size
 .intro k hk hn hw
  have bG:k≠q:=fun h=>by
   subst h;rcases I with h|h
   .omega
   .rw[m.grown.w]at h;exact hw h
  rw[hu.other k bG];exact m.frame k hk hn hw
 .intro k hk
  have bG:k≠q:=fun h=>by
   subst h;have:=m.fA k hk;rw[h5]at this;cases this
  rw[hu.other k bG];exact m.fA k hk
 .intro k x p M hk;have bG:p≠q:=fun h=>h3 k (h▸hk);by_cases mO:k=b
  .subst mO;rw[hd]at M;cases M;obtain⟨eF,t',hg⟩:=m.box k .dead p hd hk;exact⟨eF,t',by rw[hu.other p bG];exact hg⟩
  .exact(m.box k x p M hk).hZ hu bG (fun j=>by rw[Y];intro h;injection h with h;injection h with h _;exact mO h.symm)
theorem qtb {sz}:∀ {xs:List AVal} (n:Nat),(∀x∈xs,x.flat.length=sz)->(xs.take n).flatMap AVal.flat=(xs.flatMap AVal.flat).take (n*sz)
 | [],n,_=>by simp
 |x::xs,0,_=>by simp
 |x::xs,n+1,h=>by
  have M:=h x (Zw ..);have Y:x.flat.take ((n+1)*sz)=x.flat:=List.take_of_length_le (by rw[M,Z2];omega)
  have I:(n+1)*sz-sz=n*sz:=by rw[Z2];omega
  rw[List.take_succ_cons,Nu,Nu,qtb n (fun y hy=>h y (V9 _ hy)),List.take_append,M,Y,I]
theorem ez.grown {K q q' sz len cap lF xs ys news eI dM}{t':TypeId}(h:ez K w q sz xs cap)(hl:len<=xs.length)(dc:bj (.bZ K) (ys.flatMap AVal.flat) news)(fP:∀y∈ys,y.flat.length=sz)(de:∀v∈news,v.oneCell'=Hc)
  (hold:∀vs:List Value,bj (.bZ K) (xs.flatMap AVal.flat) vs->(∀(j:Nat) v,vs[j]?=En v->w.cell? ⟨q,j,Ha⟩=En v)->eI=vs.take (len*sz)) (hcap:len+ys.length<=lF) (cH:lF*sz<=dM.size)
  (hg:w'.heap[q']?=En (.cells dM t' (0,0))) (hc:∀(j:Nat) v,(eI++news)[j]?=En v->dM[j]?=En v):ez K w' q' sz (xs.take len++ys) lF:=by
 obtain⟨cells,t,vs,g1,g2,g3,g4,g5,g6,g7⟩:=h
 have ho:eI=vs.take (len*sz):=hold vs g5 (fun j v hj=>by
  unfold World.cell?;rw[g1];simp only[Lf,Jd,if_false]
  exact g6 j v hj)
 refine⟨dM,t',eI++news,hg,by rw[R2,Eac];omega,cH,?_,?_,hc,?_⟩
 .intro x M;rcases Lg.1 M with M|M
  .exact g4 x (T6 M)
  .exact fP x M
 .rw[Zn,qtb len g4,ho];exact(g5.take _).append dc
 .intro v hv;rcases Lg.1 hv with hv|hv
  .rw[ho]at hv;exact g7 v (T6 hv)
  .exact de v hv
theorem bj.pure {xs vs}(h:bj C xs vs)(hb:qo 0 xs=Hc):bj (.bZ C.K) xs vs:=
 aM.shift (C:=C) (C':=.bZ C.K) 0 (fun _ _ _ h=>h) (fun b r bg=>by omega) h hb
theorem TK {n}:∀ {xs:List AVal},qo n xs=Hc->qo n (xs.flatMap AVal.flat)=Hc
 | [],_=>rfl
 |x::xs,h=>by
  simp only[qo,I6]at h
  have key:∀(ys zs:List AVal),qo n ys=Hc->qo n zs=Hc->qo n (ys++zs)=Hc:=by
   intro ys zs
   induction ys with
   |nil=>intro _ h;exact h|cons y ys ih=>intro Y I;simp only[qo,I6,List.cons_append]at Y ⊢;exact⟨Y.1,ih Y.2 I⟩
  rw[Nu];exact key _ _ (by rw[M3];exact h.1) (TK h.2)
theorem jqh (m:aA P C ω w0 C0 hp w)(e:ar C ω w w0.heap.size env a.tmps){c}{t u el:TypeId}{ut:TypeDesc}{x y x' y' sz b bx bN len xs ys vy h'}
  (ho:o.op=.call c) (ea:c.callee=.builtin .append) (ep:c.args.toList=[x,y]) (eQ:c.argTypes.toList=[t,u]) (ht:P.underlying t=En (.slice el)) (hu:P.underlying u=En ut) (jX:AF ut=Hc)
  (hn:js P el=En sz) (hb:oL P el=En b) (Y:qq x=En x') (I:qq y=En y') (e1:qh env x'=En (.ay bx bN len)) (e2:qh env y'=En vy) (cT:yg sz vy=En ys)
  (gR:hp[bx]?=En (.vec sz bN xs)) (hle:len<=xs.length) (hlen:len+ys.length<=1073741824) (iq:b<=4096) (TL:qo 0 ys=Hc) (hzero:∃z,y7 P el=En z/\z.length=sz)
  (bK:j0 hp bx (.vec sz (bN+1) (xs.take len++ys))=En h'):
  ∃v w',(execOp a.eval o).run P w=.ok (.value v) w'/\zu P C0 w0 C a.tmps d env ⟨.ay bx (bN+1) (len+ys.length),Hb,Ha,h'⟩ v w':=by
 have gj:h'=hp.set bx (.vec sz (bN+1) (xs.take len++ys)):=by
  unfold j0 at bK
  cases wo:Eah bx hp.length with
  |false=>simp[wo]at bK|true=>simpa[wo]using bK.symm
 subst gj
 have ha:c.args=#[x,y]:=by apply Ja;simpa using ep
 have mK:c.argTypes=#[t,u]:=by apply Ja;simpa using eQ
 obtain⟨i,hi,sC⟩:∃i,P.info? el=En i/\i.bytes=b:=by
  unfold oL at hb
  cases hi:P.info? el with
  |none=>simp[hi]at hb|some i=>exact⟨i,rfl,by simpa[hi]using hb⟩
 have lD:i.size=sz:=by
  unfold js at hn;rw[hi]at hn;simpa using hn
 obtain⟨z,hz,A1⟩:=hzero
 obtain⟨zv,nX⟩:∃zv,i.zero=En zv:=by
  unfold y7 at hz;rw[hi]at hz
  cases hq:i.zero with
  |none=>simp[hq]at hz|some v=>exact⟨v,rfl⟩
 have ry:=qt e.cw I e2;obtain⟨news,G,dc,fP,de⟩:=Nf m hu jX cT ry;have sJ:bj (.bZ C.K) (ys.flatMap AVal.flat) news:=dc.pure (TK TL)
 have fb:∀ {z:Value} {w':World},(Builtin.append_ #[t,u] o.type #[a.eval x,a.eval y]).run P w=.ok z w'->(execOp a.eval o).run P w=.ok (.value z) w':=by
  intro z w' h;simp[execOp,ho,resolve,ea,ha,mK,invoke,builtin,h]
 have nY:news.length=ys.length*sz:=by rw[dc.length,yv ys fP]
 obtain⟨r0,q,cap,hβ,hT,hlc,M⟩:=Nn (qt e.cw Y e1);obtain⟨q',lF,k1,k2,k3,k4,k5⟩:=m.box bx _ r0 gR hβ;have heq:=(k2 _ hT rfl).2 rfl;simp only[Prod.mk.injEq]at heq;obtain⟨rfl,rfl⟩:=heq
 have sK:∀x,C.T x->x.1=r0->x.2.1<bN+1:=fun x M Q=>by have:=(k2 x M Q).1;omega
 have wo:=(m.lt bx r0 hβ).2
 -- the old cells
 obtain⟨cells,te,vs,g1,g2,g3,g4,g5,g6,g7⟩:=id k3
 have wh:vs.length=xs.length*sz:=by rw[g5.length,yv xs g4]
 have hvle:xs.length*sz<=cap*sz:=I5 _ g2;have hlle:len*sz<=xs.length*sz:=I5 _ hle
 have hold:∀sL:List Value,bj (.bZ C.K) (xs.flatMap AVal.flat) sL->(∀(j:Nat) v,sL[j]?=En v->w.cell? ⟨q,j,Ha⟩=En v)->vs.take (len*sz)=sL.take (len*sz):=by
  intro sL h3 h4
  have Ia:sL.length=vs.length:=by rw[h3.length,g5.length]
  have:sL=vs:=by
   apply Uf;intro j;by_cases hj:j<vs.length
   .have h5:=h4 j _ (I1 (by omega));have h6:=g6 j _ (I1 hj);unfold World.cell? at h5;rw[g1]at h5;simp only[Lf,Jd,if_false]at h5;rw[I1 hj,I1 (by omega),<-h5,h6]
   .rw[Lm (by omega),Lm (by omega)]
  rw[this]
 by_cases eC:len+ys.length<=cap
 ·-- there is room
  have gP:(len+ys.length)*sz<=cap*sz:=I5 _ eC;rw[Nw]at gP;have bF:=Ty (P:=P) (w:=w) (ty:=o.type) ht hi q 0 len cap (a.eval y) ys.length news (lD▸G) eC g1 (by rw[lD,nY];omega);rw[<-M,lD]at bF;have rm:=HR g1 (cells.toList.take (0+len*sz)++news++cells.toList.drop (0+len*sz+news.length)).toArray;have mP:=setRow_heap w q cells (cells.toList.take (0+len*sz)++news++cells.toList.drop (0+len*sz+news.length)).toArray te (0,0) g1;generalize FA:w.setRow q (cells.toList.take (0+len*sz)++news++cells.toList.drop (0+len*sz+news.length)).toArray=w' at bF rm mP
  have A7:ez C.K w' q sz (xs.take len++ys) cap:=by
   refine ez.grown (eI:=vs.take (len*sz)) k3 hle sJ fP de hold eC (by simp;omega) mP ?_;intro j v hj;rw[I2]
   have eQ:(cells.toList.take (0+len*sz)).length=len*sz:=by simp;omega
   have mQ:(vs.take (len*sz)).length=len*sz:=by simp;omega
   by_cases FC:j<len*sz
   .rw[Jw,If (by rw[eQ];exact FC)];rw[If (by rw[mQ];exact FC),Jl FC]at hj;rw[Jl (by omega),Iy];exact g6 j v hj
   .rw[Iw (by rw[mQ];omega),mQ]at hj;have hjn:j-len*sz<news.length:=(Iq.1 hj).1;rw[Jw,Iw (by rw[eQ];omega),eQ,If hjn];exact hj
  have fin:∀(m1:aA P C ω w0 C0 (hp.set bx .dead) w') (e1:ar C ω w' w0.heap.size env a.tmps) (A2:q=r0\/xP C ω w' w0.heap.size bx q (xs.take len++ys).length cap) (iO:∃cs t,w'.heap[r0]?=En (.cells cs t (0,0))),
    zu P C0 w0 C a.tmps d env ⟨.ay bx (bN+1) (len+ys.length),Hb,Ha,hp.set bx (.vec sz (bN+1) (xs.take len++ys))⟩ (.slice (En ⟨q,0,Ha⟩) (len+ys.length) cap) w':=by
   intro m1 e1 A2 iO;have m2:=m1.sG (b:=bx) (sz:=sz) (bN:=bN+1) (q:=q) (cap:=cap) (xs:=xs.take len++ys) hβ sK A7 A2 iO;rw[Z9]at m2;exact⟨_,ω,aQ.gS,m2,e1.tok,.ay _ _ _ r0 q cap hβ (.inr rfl) eC,by simp⟩
  refine⟨_,_,fb bF,?_⟩;rcases k4 with rfl|k4
  .refine fin ?_ (e.dK rm.hZ hβ) (.inl rfl) ⟨_,_,mP⟩;exact m.dX rm.hZ hβ .dead (fun _ _ _ _ _ h=>h) ⟨_,_,mP⟩
  .have hqr:q≠r0:=fun h=>k4.2.2.1 bx (by rw[hβ];exact congrArg En h.symm);have md:=m.sI hβ k5;have m1:=md.A6 (by rw[Jb wo]) k4 rm;obtain⟨TM,t5,k5⟩:=k5;refine fin m1 ?_ (.inr ?_) ⟨TM,t5,by rw[rm.other _ (Uh hqr)];exact k5⟩
   .exact fun s y hy=>let ⟨v,j1,j2,j3⟩:=e s y hy; ⟨v,j1,j2,fun h=>(j3 h).hZ rm (by rw[k4.1];simp)⟩
   .obtain⟨j1,j2,j3,j4,j5,_,j7⟩:=k4;exact⟨j1,j2,j3,j4,j5,⟨_,te,mP,by simp,fun _ _ _ h=>by simp at h⟩,fun o ho=>j7 o (by simp)⟩
 ·-- there is none
  have cH:Builtin.nextslicecap (len+ys.length) cap*i.bytes<=281474976710656:=growslice_fits (by omega) (by
   rw[sC]
   exact Jy (Nz hlen iq) (by decide))
  have Ib:(vs.take (len*sz)).length=len*i.size:=by rw[lD];simp;omega
  have bF:=run_append_grow_src w t u o.type el i zv ht hi nX (En ⟨q,0,Ha⟩) len cap (vs.take (len*sz)) (run_firstCells_some _ _ _ _ _ _ _ Ib (fun j v hj=>by
   rw[Zo]at hj;split at hj
   ·have h3:=g6 j v hj
    have h4:w.cell? ⟨q,j,Ha⟩=En v:=by
     unfold World.cell?;rw[g1];simp only[Lf,Jd,if_false];exact h3
    rw[add_lit,Eaa];exact h4
   ·cases hj)) (a.eval y) ys.length news (lD▸G) (by omega) (by omega) cH
  rw[<-M]at bF;have oR:=grownCap_ge w (len+ys.length) cap el
  have il:zv.cells.size=sz:=by
   obtain⟨_,zv',gh,HX,_⟩:=uv (C:=C) hz;have:=gh w;simp[zeroValue,typeInfo,hi,nX]at this;subst this;have:=HX.length;simp at this;omega
  generalize eJ:((vs.take (len*sz)++news).toArray++Builtin.zeroCells zv.cells (grownCap w (len+ys.length) cap el-(len+ys.length)))=dM at bF;generalize TN:grownCap w (len+ys.length) cap el=gc at bF oR eJ;have fV:Ext w w.drew:=Ext.drew w;have TP:Ext w.drew (w.drew.alloc (.cells dM el)):=Ext.alloc _ _ (fun c t fr h=>by cases h;rfl)
  have Ic:(w.drew.alloc (.cells dM el)).heap[w.drew.heap.size]?=En (.cells dM el (0,0)):=by rw[vZ,if_pos rfl]
  have A7:ez C.K (w.drew.alloc (.cells dM el)) w.drew.heap.size sz (xs.take len++ys) gc:=by
   refine ez.grown (eI:=vs.take (len*sz)) k3 hle sJ fP de hold oR ?_ Ic ?_
   .rw[<-eJ]
    have mQ:(vs.take (len*sz)).length=len*sz:=by simp;omega
    simp only[Ui,S8,R2,mQ,nY]
    have:(Builtin.zeroCells zv.cells (gc-(len+ys.length))).size=(gc-(len+ys.length))*sz:=by simp[Builtin.zeroCells,il]
    rw[this,<-Nw,<-Nw];exact I5 _ (by omega)
   .intro j v hj;rw[<-eJ,Jx (by simpa using(Iq.1 hj).1)];simpa using hj
  have md:=((m.sI hβ k5).ext fV).lB w.drew.heap.size (.cell bx 0) (Ix _);have m1:=md.ext TP;obtain⟨TM,t5,k5⟩:=k5;have m2:=m1.sG (b:=bx) (sz:=sz) (bN:=bN+1) (q:=w.drew.heap.size) (cap:=gc) (xs:=xs.take len++ys) hβ sK A7 (.inr ⟨by simp[cO],.inl (Jy m.size fV.size),fun k hk=>by have:=(m.lt k _ hk).1;simp at this,rfl,rfl,⟨dM,el,Ic,by simp,fun _ _ _ h=>by simp at h⟩,fun o _=>m.kN _ fV.size o⟩) ⟨TM,t5,(fV.trans TP).get k5⟩;rw[Z9]at m2;refine⟨_,_,fb bF,_,_,aQ.gS,m2,(((e.ext fV).fresh (Ix _)).ext TP).tok,.ay _ _ _ r0 _ gc hβ (.inr rfl) (by omega),by simp⟩
theorem jgw (m:aA P C ω w0 C0 hp w)(e:ar C ω w w0.heap.size env tmps){bx sz cap xs cells}{te:TypeId}{vs}(hh:hp[bx]?=En .hole)(Np:bj C (xs.flatMap AVal.flat) vs)(A8:qo 0 xs=Hc)(db:∀x∈xs,x.flat.length=sz)
  (de:∀v∈vs,v.oneCell'=Hc) (hc:∀(j:Nat) v,vs[j]?=En v->cells[j]?=En v) (hcap:xs.length<=cap) (cH:cap*sz<=cells.size):
  zu P C0 w0 C tmps d env ⟨.ay bx 0 xs.length,Hb,Ha,hp.set bx (.vec sz 0 xs)⟩ (.slice (En ⟨w.heap.size,0,Ha⟩) xs.length cap) (w.alloc (.cells cells te)):=by
 obtain⟨m1,e1,Ba⟩:=m.aO e hh (.cells cells te) (fun c t fr h=>by cases h;rfl) .dead (fun C' ω' w' _ hg=>⟨cells,te,hg⟩)
 have Ic:(w.alloc (.cells cells te)).heap[w.heap.size]?=En (.cells cells te (0,0)):=by rw[vZ,if_pos rfl]
 have hβ:(C.box bx w.heap.size).β bx=En w.heap.size:=by simp[aQ.box]
 have m2:=m1.sG (b:=bx) (r:=w.heap.size) (sz:=sz) (bN:=0) (q:=w.heap.size) (cap:=cap) (xs:=xs) hβ (fun x M Q=>by have:=m.iJ x M;omega) ⟨cells,te,vs,Ic,hcap,cH,db,Np.pure (TK A8),hc,de⟩ (.inl rfl) ⟨cells,te,Ic⟩;rw[Z9]at m2;exact⟨_,ω,aQ.le_trans Ba aQ.gS,m2,e1.tok,.ay _ _ _ w.heap.size w.heap.size cap hβ (.inr rfl) hcap,by simp⟩
theorem jky (m:aA P C ω w0 C0 hp w)(e:ar C ω w w0.heap.size env a.tmps){c}{t u el:TypeId}{ut:TypeDesc}{x y x' y' sz TQ b h0 rk ys vy h'}
  (ho:o.op=.call c) (ea:c.callee=.builtin .append) (ep:c.args.toList=[x,y]) (eQ:c.argTypes.toList=[t,u]) (ht:P.underlying t=En (.slice el)) (hu:P.underlying u=En ut) (jX:AF ut=Hc)
  (hn:js P el=En sz) (hb:oL P el=En b) (Y:qq x=En x') (I:qq y=En y') (e1:qh env x'=En (.list Hc TQ [])) (e2:qh env y'=En vy) (cT:yg sz vy=En ys)
  (hlen:ys.length<=1073741824) (bG:ys≠[]) (iq:b<=4096) (TL:qo 0 ys=Hc) (hzero:∃z,y7 P el=En z/\z.length=sz) (dx:aO h0 hp rk (.vec sz 0 ys)=En h'):
  ∃v w',(execOp a.eval o).run P w=.ok (.value v) w'/\zu P C0 w0 C a.tmps d env ⟨.ay (h0+rk) 0 ys.length,Hb,Ha,h'⟩ v w':=by
 obtain⟨hh,rfl⟩:=ke dx
 have ha:c.args=#[x,y]:=by apply Ja;simpa using ep
 have mK:c.argTypes=#[t,u]:=by apply Ja;simpa using eQ
 obtain⟨i,hi,sC⟩:∃i,P.info? el=En i/\i.bytes=b:=by
  unfold oL at hb
  cases hi:P.info? el with
  |none=>simp[hi]at hb|some i=>exact⟨i,rfl,by simpa[hi]using hb⟩
 have lD:i.size=sz:=by
  unfold js at hn;rw[hi]at hn;simpa using hn
 obtain⟨z,hz,A1⟩:=hzero
 obtain⟨zv,nX⟩:∃zv,i.zero=En zv:=by
  unfold y7 at hz;rw[hi]at hz
  cases hq:i.zero with
  |none=>simp[hq]at hz|some v=>exact⟨v,rfl⟩
 have ry:=qt e.cw I e2;obtain⟨news,G,dc,fP,de⟩:=Nf m hu jX cT ry
 have fb:∀ {z:Value} {w':World},(Builtin.append_ #[t,u] o.type #[a.eval x,a.eval y]).run P w=.ok z w'->(execOp a.eval o).run P w=.ok (.value z) w':=by
  intro z w' h;simp[execOp,ho,resolve,ea,ha,mK,invoke,builtin,h]
 have nY:news.length=ys.length*sz:=by rw[dc.length,yv ys fP]
 have M:a.eval x=.slice Ha 0 0:=by
  rcases(qt e.cw Y e1).cQ with⟨_,_,M⟩|⟨hf,_⟩|⟨hf,_⟩
  .exact M
  .cases hf
  .cases hf
 have iw:0<ys.length:=List.length_pos_iff.2 bG
 have cH:Builtin.nextslicecap (0+ys.length) 0*i.bytes<=281474976710656:=growslice_fits (by omega) (by
  rw[sC]
  exact Jy (Nz (by omega) iq) (by decide:2^30*4096<=_))
 have bF:=run_append_grow_src w t u o.type el i zv ht hi nX Ha 0 0 [] (run_firstCells_none _ _ _ _ _) (a.eval y) ys.length news (lD▸G) (by omega) (by omega) cH;rw[<-M]at bF;have oR:=grownCap_ge w (0+ys.length) 0 el
 have il:zv.cells.size=sz:=by
  obtain⟨_,zv',gh,HX,_⟩:=uv (C:=C) hz;have:=gh w;simp[zeroValue,typeInfo,hi,nX]at this;subst this;have:=HX.length;simp at this;omega
 generalize eJ:(([]++news).toArray++Builtin.zeroCells zv.cells (grownCap w (0+ys.length) 0 el-(0+ys.length)))=dM at bF;generalize TN:grownCap w (0+ys.length) 0 el=gc at bF oR eJ;have fV:Ext w w.drew:=Ext.drew w
 have:=jgw (d:=d) (tmps:=a.tmps) (m.ext fV) (e.ext fV) (te:=el) (cap:=gc) (sz:=sz) (cells:=dM) hh dc TL fP de (fun j v hj=>by
  rw[<-eJ,Qf,Jx (by simpa using(Iq.1 hj).1)]
  simpa using hj) (by omega) (by
   rw[<-eJ]
   have h5:(Builtin.zeroCells zv.cells (gc-(0+ys.length))).size=(gc-(0+ys.length))*sz:=by simp[Builtin.zeroCells,il]
   simp only[Ui,S8,Qf,nY,h5];rw[<-Nw]
   exact I5 _ (by omega))
 rw[Eaa]at bF;exact⟨_,_,fb bF,this⟩
theorem jqa (m:aA P C ω w0 C0 hp w)(e:ar C ω w w0.heap.size env a.tmps){t el:TypeId}{ps len sz h0 rk z fU qs xs h'}
  (ho:o.op=.buildSlice t len ps) (ht:P.underlying t=En (.slice el)) (hn:js P el=En sz) (hz:y7 P el=En z) (hlen:sz*len<=65536) (TF:0<sz) (il:z.length=sz)
  (nv:xM ps.toList=En fU) (hq:yi env sz fU=En qs) (M:l6 (H3 len (ur sz z)) qs=En xs) (A8:qo 0 xs=Hc) (dx:aO h0 hp rk (.vec sz 0 xs)=En h'):
  ∃v w',(execOp a.eval o).run P w=.ok (.value v) w'/\zu P C0 w0 C a.tmps d env ⟨.ay (h0+rk) 0 xs.length,Hb,Ha,h'⟩ v w':=by
 obtain⟨hh,rfl⟩:=ke dx;obtain⟨ds,bF,hdr,Y,rj,kW,cH⟩:=qpe (C:=C) (ω:=ω) (w:=w) (w0:=w0) e ho ht hn hz hlen TF il nv hq M;refine⟨_,_,bF,?_⟩;have fa:=jgw (d:=d) (tmps:=a.tmps) m e (te:=el) (cap:=len) (sz:=sz) (cells:=ds) hh hdr A8 rj Y (by intro j v h;simpa using h) (by omega) cH;rw[kW]at fa ⊢;exact fa
theorem jeq (m:aA P C ω w0 C0 hp w)(e:ar C ω w w0.heap.size env a.tmps){t:TypeId}{z}(ho:o.op=.alloc t)(hz:y7 P t=En z):
  ∃v w',(execOp a.eval o).run P w=.ok (.value v) w'/\zu P C0 w0 C a.tmps d env ⟨.cW z.length,Hc,Ha,hp⟩ v w':=by
 obtain⟨_,zv,mf,cR,gh⟩:=uv (C:=C) hz;have M:Ext w (w.alloc (.cells zv.cells t)):=Ext.alloc w _ (fun c t fr h=>by cases h;rfl)
 have il:zv.cells.size=z.length:=by have:=cR.length;simpa using this
 refine⟨.pointer (En ⟨w.heap.size,0,Ha⟩),_,by simp[execOp,ho,Instr.alloc,mf,newVar,newRow],C,Abs.cO ω w.heap.size d,aQ.le_refl C,(m.lB _ d (Ix _)).ext M,(e.fresh (Ix _)).ext M,.cW _ _,fun _=>?_⟩;refine⟨by simp[Abs.cO],.inl m.size,fun b hb=>by have:=(m.lt b _ hb).1;simp at this,rfl,rfl,⟨zv.cells,t,by rw[vZ,if_pos rfl],by simp;omega,fun _ _ _ h=>by simp at h⟩,fun o _=>m.kN _ (Ix _) o⟩
theorem jc5 (m:aA P C ω w0 C0 hp w)(e:ar C ω w w0.heap.size env a.tmps){t:TypeId}{x y y' n s v}(ho:o.op=.store t x y)(hn:js P t=En n)
  (Y:qq x=En (.tmp s)) (I:qq y=En y') (hl:jn s env=En (.cW n,Hc)) (e2:qh env y'=En v) (wh:v.flat.length=n) (G:v.flat.all qk=Hc):
  ∃w' C' ω',(execOp a.eval o).run P w=.ok .skip w'/\C.le C'/\aA P C' ω' w0 C0 hp w'/\ar C' ω' w' w0.heap.size ((s,.aq v,Hb)::env) a.tmps:=by
 obtain⟨cv,c1,c2,c3⟩:=e s _ hl
 have eR:a.eval x=cv:=by
  cases x with
  |tmp t'=>
   simp only[qq]at Y;cases Y;simp[Act.eval,I3,c1]
  |const u=>simp only[qq]at Y;split at Y<;>cases Y|func f=>simp[qq]at Y|global g=>simp[qq]at Y
 cases c2 with
 |cW _ ad=>
  obtain⟨hω,hB,hβ,kQ,wc,⟨cells,te,hg,cH,_⟩,hK⟩:=c3 rfl;obtain⟨r,q,sp⟩:=ad;simp only at hω hB hβ kQ wc hg cH hK;subst kQ;subst wc;have ry:=qt e.cw I e2;have hc:=AU ry G;have de:=AW hc (fun y hy=>Uj.1 G y hy)
  have dU:(a.eval y).cells.toList.length=n:=by rw[hc.length,wh]
  have bF:=TD (P:=P) (t:=t) (off:=0) hn dU hg (by omega) de;obtain⟨m',e',hle⟩:=q1e (d:=.slot s) m e (r:=r) (q:=0) (news:=(a.eval y).cells.toList) hω hB hβ hg (by omega) (fun o _=>hK o (by simp)) de;refine⟨_,_,_,?_,hle,m',?_⟩
  .simp only[execOp,ho,Instr.storeAt,Sem.run_bind,eR,Instr.sureAddr,Sem.run_pure,Result.andThen_ok,bF]
  .intro t' z hz;by_cases mN:t'=s
   .subst mN;simp only[jn,Ur,cond_true,En.injEq]at hz;subst hz;exact⟨_,c1,.aq _ _ _ (aQ.fo (fun o _=>hK o (by simp)) hc),by simp⟩
   .have hb:I9 s t'=Hb:=by
     cases hb:I9 s t' with
     |false=>rfl|true=>exact absurd (H2 hb).symm mN
    simp only[jn,hb,cond_false]at hz;refine e' t' z ?_;simp only[yh,hl,jn,hb,cond_false];exact hz
end
section
variable {P:Program}{C C0:aQ}{ω:Nat->Option Loc}{w w' w0:World}{hp:qf}{env:Env}{a:Act}{o:Oper}{tmps:Array Value}{d:Loc}
def ko (w:World)(r:Nat)(x:Obj):World:={ w with heap:=w.heap.setIfInBounds r x }
theorem Ie {r x}(h:r<w.heap.size):(ko w r x).heap[r]?=En x:=by
 show(w.heap.setIfInBounds r x)[r]?=_;rw[Array.getElem?_setIfInBounds_self_of_lt h]
theorem FD {r x}(h:r<w.heap.size)(M:∀c t fr,x=.cells c t fr->fr=(0,0)):nZ w (ko w r x) r where
 size:=by simp[ko]
 other k hk:=by
  show(w.heap.setIfInBounds r x)[k]?=_;rw[Array.getElem?_setIfInBounds_ne (Uh hk)]
 fz c t fr hc:=by
  rw[Ie h]at hc;exact M c t fr (En.inj hc)
 os:=rfl
 output:=rfl
theorem xY {r x y}(h:w.heap[r]?=En y)(hy:∀c t f,y≠.cells c t f):(setObj r x).run P w=.ok () (ko w r x):=by
 cases y with
 |cells c t f=>exact absurd rfl (hy c t f)|_=>simp[setObj,Sem.run,ko,h]
theorem rn {r y}(h:w.heap[r]?=En y)(hy:∀c t f,y≠.cells c t f):(getObj r).run P w=.ok y w:=by
 cases y with
 |cells c t f=>exact absurd rfl (hy c t f)|_=>simp[getObj,Sem.run,h]
theorem jhm (m:aA P C ω w0 C0 hp w)(e:ar C ω w w0.heap.size env a.tmps){x x' b pos s}(ho:o.op=.next x Hc)(Y:qq x=En x')(e1:qh env x'=En (.ptr b 0))(gR:hp[b]?=En (.iter s pos)):
  (pos<s.length->∀h',j0 hp b (.iter s (pos+(qj s pos).2))=En h'->∃v w',(execOp a.eval o).run P w=.ok (.value v) w'/\zu P C0 w0 C a.tmps d env ⟨.aJ [.bool Hc,.int .i64 pos,.int .i32 (qj s pos).1],Hb,Ha,h'⟩ v w') /\
  (¬pos<s.length->∃v w',(execOp a.eval o).run P w=.ok (.value v) w'/\zu P C0 w0 C a.tmps d env ⟨.aJ [.bool Hb],Hb,Ha,hp⟩ v w'):=by
 obtain⟨r,Q,hq⟩:=(qt e.cw Y e1).dr;have gQ:w.heap[r]?=En (.stringIter ⟨⟨s⟩⟩ pos):=m.box b _ r gR Q;have bg:=(m.lt b r Q).1;have db:(⟨⟨s⟩⟩:ByteArray).size=s.length:=rfl;constructor
 .intro iw h' bK;obtain rfl:=A3 bK;have hu:=FD (w:=w) (r:=r) (x:=.stringIter ⟨⟨s⟩⟩ (pos+(qj s pos).2)) bg (by simp);refine⟨.tuple #[.bool Hc,goInt pos,.int .i32 (qj s pos).1],ko w r (.stringIter ⟨⟨s⟩⟩ (pos+(qj s pos).2)),?_,C,ω,aQ.le_refl C,m.dX hu Q _ (fun _ _ _ _ _ h=>h) (Ie bg),e.dK hu Q,?_,by simp⟩
  .have eP:pos<(⟨⟨s⟩⟩:ByteArray).size:=iw;have bK:=xY (P:=P) (x:=.stringIter ⟨⟨s⟩⟩ (pos+(qj s pos).2)) gQ (by simp);simp only[execOp,ho,hq,Instr.next,Sem.run_bind,rn gQ (by simp),Result.andThen_ok,eP,if_true];unfold qj at bK ⊢;simp only[Sem.run_bind,bK,Result.andThen_ok,Sem.run_pure]
  .refine .aJ _ _ (.cons _ _ _ _ (.bool _) (.cons _ _ _ _ ?_ (.cons _ _ _ _ (.int _ _) .nil)));exact .int _ _
 .intro iw;have eP:¬pos<(⟨⟨s⟩⟩:ByteArray).size:=iw;refine⟨.tuple #[.bool Hb],w,?_,q99 m e (.aJ _ _ (.cons _ _ _ _ (.bool _) .nil))⟩;simp only[execOp,ho,hq,Instr.next,Sem.run_bind,rn gQ (by simp),Result.andThen_ok,eP,if_false,Sem.run_pure]
theorem TR {t:TypeId}{kd}(h:lA P t=En kd):(kd=.int/\∃k,P.underlying t=En (.int k))\/(kd=.str/\P.underlying t=En .string)\/(kd=.bool/\P.underlying t=En .bool):=by
 unfold lA at h
 split at h<;>first|cases h|skip
 .exact .inl ⟨rfl,_,‹_›⟩
 .exact .inr (.inl ⟨rfl,‹_›⟩)
 .exact .inr (.inr ⟨rfl,‹_›⟩)
theorem qyr {t:TypeId}{td:TypeDesc}{kd x y u v b}(ht:P.underlying t=En td)(hk:lA P t=En kd)(M:bS C x u)(hy:bS C y v)(h:nq kd x y=En b):Instr.sameNow td u v=En b/\(b=Hc->x=y/\u=v/\Instr.sameBits 10000 v u=Hc):=by
 rcases TR hk with⟨rfl,k,hu⟩|⟨rfl,hu⟩|⟨rfl,hu⟩<;>rw[hu]at ht<;>cases ht
 .cases x<;>cases y<;>simp only[nq]at h<;>first|cases h|skip
  rename_i k1 n1 k2 n2;have e1:=M.bU;have e2:=hy.bU;subst e1;subst e2;by_cases iy:k1=k2
  .subst iy;simp only[decide_true,cond_true,En.injEq]at h;refine⟨by simp[Instr.sameNow,h],fun hb=>?_⟩;subst hb
   have:n1=n2:=by simpa using h
   subst this;exact⟨rfl,rfl,by simp[Instr.sameBits]⟩
  .simp[iy]at h
 .cases x<;>cases y<;>simp only[nq]at h<;>first|cases h|skip
  rename_i s1 s2;have e1:=M.cz;have e2:=hy.cz;subst e1;subst e2
  have Ig:((⟨⟨s1⟩⟩:ByteArray) == ⟨⟨s2⟩⟩)=(s1 == s2):=by
   show(Array.mk s1 == Array.mk s2)=_;simp
  refine⟨by simp only[Instr.sameNow,Ig],fun hb=>?_⟩
  have wu:s1=s2:=by simpa using hb
  subst wu;refine⟨rfl,rfl,?_⟩;simp only[Instr.sameBits,Ig];simp
 .cases x<;>cases y<;>simp only[nq]at h<;>first|cases h|skip
  rename_i b1 b2;have e1:=M.dq;have e2:=hy.dq;subst e1;subst e2;refine⟨by simp[Instr.sameNow],fun hb=>?_⟩
  have wu:b1=b2:=by simpa using hb
  subst wu;exact⟨rfl,rfl,by simp[Instr.sameBits]⟩
theorem Ih {t:TypeId}{td:TypeDesc}{kd k u}(ht:P.underlying t=En td)(hk:lA P t=En kd)(M:bS C k u):∀ {es:List (AVal×AVal)} {ms:List MapEntry} {i:Nat} {r:Option (Nat×AVal)},cI C es ms->za kd k es i=En r ->
  match r with
  |none=>Instr.findNow td u ms i=En Ha|some (j,v)=>∃m,i<=j/\es[j-i]?=En (k,v)/\ms[j-i]?=En m/\m.key=u/\bS C v m.val/\Instr.findNow td u ms i=En (En (j,m.val))/\Instr.sameBits 10000 m.key u=Hc
 |_,_,i,r,.nil,h=>by
  simp only[za,En.injEq]at h;subst h;simp[Instr.findNow]
 |_,_,i,r,.cons k' v' es m ms Y I h3,h=>by
  simp only[za]at h;split at h
  .rename_i he;cases h;obtain⟨q1,q2⟩:=qyr ht hk M Y he;obtain⟨rfl,rfl,q3⟩:=q2 rfl;exact⟨m,Ix _,by simp,by simp,rfl,I,by simp[Instr.findNow,q1],q3⟩
  .rename_i he;obtain⟨q1,_⟩:=qyr ht hk M Y he;have ih:=Ih ht hk M h3 h
   cases r with
   |none=>simp only[Instr.findNow,q1];exact ih
   |some jv=>
    obtain⟨j,v⟩:=jv;obtain⟨m2,k1,k2,k3,k4,k5,k6,k7⟩:=ih;refine⟨m2,by omega,?_,?_,k4,k5,by simp only[Instr.findNow,q1];exact k6,k7⟩
    .rw[show j-i=(j-(i+1))+1 from by omega];simpa using k2
    .rw[show j-i=(j-(i+1))+1 from by omega];simpa using k3
  .cases h
theorem FE {t:TypeId}{kd}(hk:lA P t=En kd)(e:Bool)(v:Value):(Instr.checkKey e 10000 t v).run P w=.ok () w:=by
 rcases TR hk with⟨_,k,hu⟩|⟨_,hu⟩|⟨_,hu⟩<;>(unfold Instr.checkKey;simp[run_underlying hu])
theorem Ii {t:TypeId}{td:TypeDesc}{u ms r}(ht:P.underlying t=En td)(h:Instr.findNow td u ms 0=En r):(Instr.findKey t u ms).run P w=.ok r w:=by
 simp[Instr.findKey,run_underlying ht,h]
theorem TS {t:TypeId}{kd}(hk:lA P t=En kd):∃td,P.underlying t=En td:=by
 rcases TR hk with⟨_,k,hu⟩|⟨_,hu⟩|⟨_,hu⟩<;>exact⟨_,hu⟩
theorem TT (m:aA P C ω w0 C0 hp w)(e:ar C ω w w0.heap.size env a.tmps){t kt el:TypeId}{x y ok x' y' kd zv mv kv r}(ho:o.op=.lookup t x y ok)(ht:P.underlying t=En (.map kt el))(iP:lA P kt=En kd)(hz:S6 P el=En zv)
  (Y:qq x=En x') (I:qq y=En y') (e1:qh env x'=En mv) (e2:qh env y'=En kv)
  (hv:(mv=.b8/\r=Ha)\/∃b es,mv=.map b/\hp[b]?=En (.map es)/\za kd kv es 0=En r):
  Val P C a o w (match r with
   |some (_,v)=>bif ok then .aJ [v,.bool Hc]else v
   |none=>bif ok then .aJ [zv,.bool Hb]else zv):=by
 have iu:=qt e.cw I e2;have uy:=qt e.cw Y e1;obtain⟨td,sM⟩:=TS iP
 obtain⟨Ij,mf,nX⟩:∃v,(∀w,(zeroValue el).run P w=.ok v w)/\bS C zv v:=by
  unfold S6 at hz;split at hz
  .rename_i i hi;split at hz
   .rename_i v hv;exact⟨v,fun w=>by simp[zeroValue,typeInfo,hi,hv],qwg C hz⟩
   .cases hz
  .cases hz
 have fin:∀ {ms:List MapEntry} {rv:Option (Nat×Value)},(a.eval x=.map Ha/\ms=[]\/∃q clock,a.eval x=.map (En q)/\w.heap[q]?=En (.map ⟨ms⟩ clock))->Instr.findNow td (a.eval y) ms 0=En rv ->
   (execOp a.eval o).run P w=.ok (.value (if ok then .tuple #[(match rv with|some (_,v)=>v|none=>Ij),.bool rv.isSome]else(match rv with|some (_,v)=>v|none=>Ij))) w:=by
  intro ms rv hm hf;have uz:=Ii (w:=w) sM hf;rcases hm with⟨hm,rfl⟩|⟨q,clock,hm,hq⟩
  .cases rv<;>simp[execOp,ho,Instr.lookup,run_underlying ht,hm,FE iP,uz,mf]
  .cases rv<;>simp[execOp,ho,Instr.lookup,run_underlying ht,hm,rn hq (by simp),FE iP,uz,mf]
 rcases hv with⟨rfl,rfl⟩|⟨b,es,rfl,hb,hfe⟩
 .generalize nw:a.eval x=mx at uy;cases uy;refine⟨_,fin (ms:=[]) (rv:=none) (.inl ⟨nw,rfl⟩) (by simp[Instr.findNow]),?_⟩
  cases ok with
  |true=>exact .aJ _ _ (.cons _ _ _ _ nX (.cons _ _ _ _ (.bool _) .nil))|false=>exact nX
 .generalize nw:a.eval x=mx at uy
  cases uy with
  |map _ q pM=>
   obtain⟨cr,clock,g1,g2⟩:=m.box b _ q hb pM;have hf:=Ih sM iP iu g2 hfe
   cases r with
   |none=>
    refine⟨_,fin (ms:=cr.toList) (rv:=none) (.inr ⟨q,clock,nw,g1⟩) hf,?_⟩
    cases ok with
    |true=>exact .aJ _ _ (.cons _ _ _ _ nX (.cons _ _ _ _ (.bool _) .nil))|false=>exact nX
   |some jv=>
    obtain⟨j,v⟩:=jv;obtain⟨me,_,_,_,_,hrv,hfn,_⟩:=hf;refine⟨_,fin (ms:=cr.toList) (rv:=En (j,me.val)) (.inr ⟨q,clock,nw,g1⟩) hfn,?_⟩
    cases ok with
    |true=>exact .aJ _ _ (.cons _ _ _ _ hrv (.cons _ _ _ _ (.bool _) .nil))|false=>exact hrv
theorem cI.hZ {k v:AVal}:∀ {es:List (AVal×AVal)} {ms:List MapEntry} {j:Nat} {m:MapEntry},cI C es ms->bS C v m.val->(∀k',(es[j]?).map (·.1)=En k'->bS C k' m.key)->cI C (sk es j v) (ms.set j m)
 |_,_,j,m,.nil,_,_=>by simp[sk];exact .nil
 |_,_,0,m,.cons k' v' es m' ms Y I h3,hv,hk=>by
  simp only[sk,List.set_cons_zero];exact .cons _ _ _ _ _ (hk k' (by simp)) hv h3
 |_,_,j+1,m,.cons k' v' es m' ms Y I h3,hv,hk=>by
  simp only[sk,List.set_cons_succ];exact .cons _ _ _ _ _ Y I (cI.hZ (k:=k) h3 hv (fun k' h=>hk k' (by simpa using h)))
theorem cI.push {k v m es ms}(h:cI C es ms)(hk:bS C k m.key)(hv:bS C v m.val):cI C (es++[(k,v)]) (ms++[m]):=by
 induction h with
 |nil=>exact .cons _ _ _ _ _ hk hv .nil|cons k' v' es m' ms Y I _ ih=>exact .cons _ _ _ _ _ Y I ih
theorem qr3 (m:aA P C ω w0 C0 hp w)(e:ar C ω w w0.heap.size env a.tmps){t kt el:TypeId}{x y z x' y' z' kd kv v b es h'}(ho:o.op=.mapUpdate t x y z\/o.op=.insert t x y z)(ht:P.underlying t=En (.map kt el))(iP:lA P kt=En kd)
  (Y:qq x=En x') (I:qq y=En y') (h3:qq z=En z') (e1:qh env x'=En (.map b)) (e2:qh env y'=En kv) (e3:qh env z'=En v) (hb:hp[b]?=En (.map es))
  (hv:(∃i u,za kd kv es 0=En (En (i,u))/\j0 hp b (.map (sk es i v))=En h')\/(za kd kv es 0=En Ha/\j0 hp b (.map (es++[(kv,v)]))=En h')):
  ∃w',(execOp a.eval o).run P w=.ok .skip w'/\zu P C0 w0 C a.tmps d env ⟨.undef,Hb,Ha,h'⟩ undef w':=by
 have iu:=qt e.cw I e2;have hvr:=qt e.cw h3 e3;have uy:=qt e.cw Y e1;obtain⟨td,sM⟩:=TS iP;generalize nw:a.eval x=mx at uy
 cases uy with
 |map _ q pM=>
  obtain⟨cr,clock,g1,g2⟩:=m.box b _ q hb pM;have bg:=(m.lt b q pM).1
  have done:∀(uD:List (AVal×AVal)) (sN:Array MapEntry) (lG:Nat),cI C uD sN.toList->j0 hp b (.map uD)=En h' ->
    (execOp a.eval o).run P w=.ok .skip (ko w q (.map sN lG))->∃w',(execOp a.eval o).run P w=.ok .skip w'/\zu P C0 w0 C a.tmps d env ⟨.undef,Hb,Ha,h'⟩ undef w':=by
   intro uD sN lG wv bK bF;obtain rfl:=A3 bK;have hu:=FD (w:=w) (r:=q) (x:=.map sN lG) bg (by simp);exact⟨_,bF,C,ω,aQ.le_refl C,m.dX hu pM _ (fun _ _ _ _ _ h=>h) ⟨sN,lG,Ie bg,wv⟩,e.dK hu pM,.undef,by simp⟩
  rcases hv with⟨i,u,hf,bK⟩|⟨hf,bK⟩
  .obtain⟨me,_,k1,k2,k3,k4,k5,k6⟩:=Ih sM iP iu g2 hf;have uz:=Ii (w:=w) sM k5;simp only[Nat.sub_zero]at k1 k2
   have TU:cr[i]?=En me:=by simpa using k2
   have hlen:i<cr.size:=(I7.1 TU).1;refine done (sk es i v) (cr.modify i fun e=>{ e with key:=a.eval y,val:=a.eval z }) clock ?_ bK ?_
   .have:(cr.modify i fun e=>{ e with key:=a.eval y,val:=a.eval z }).toList=cr.toList.set i { me with key:=a.eval y,val:=a.eval z }:=by
     apply Uf;intro j;rw[Iy,Array.getElem?_modify,Eab];by_cases wi:i=j
     .subst wi;have hgi:=(I7.1 TU).2;simp[hlen,hgi]
     .simp[wi]
    rw[this];refine cI.hZ (k:=kv) g2 hvr (fun k' fc=>?_);rw[k1]at fc;cases fc;exact iu
   .have gj:=xY (P:=P) (x:=.map (cr.modify i fun e=>{ e with key:=a.eval y,val:=a.eval z }) clock) g1 (by simp)
    have Ik:∀w:World,(Instr.keyThatStays (((cr[i]?).map (·.key)).getD (a.eval y)) (a.eval y)).run P w=.ok (a.eval y) w:=by
     intro w;simp[Instr.keyThatStays,TU,k6]
    rcases ho with ho|ho<;>simp only[execOp,ho,Instr.mapUpdate,Sem.run_bind,run_underlying ht,Result.andThen_ok,nw,rn g1 (by simp),FE iP,uz,Ik,gj,Sem.run_pure]
  .have HG:=Ih sM iP iu g2 hf;have uz:=Ii (w:=w) sM HG;refine done (es++[(kv,v)]) (cr.push { key:=a.eval y,val:=a.eval z,born:=clock }) (clock+1) ?_ bK ?_
   .rw[Array.toList_push];exact g2.push iu hvr
   .have gj:=xY (P:=P) (x:=.map (cr.push { key:=a.eval y,val:=a.eval z,born:=clock }) (clock+1)) g1 (by simp);rcases ho with ho|ho<;>simp only[execOp,ho,Instr.mapUpdate,Sem.run_bind,run_underlying ht,Result.andThen_ok,nw,rn g1 (by simp),FE iP,uz,gj,Sem.run_pure]
end
section
variable {P:Program}{C C0:aQ}{ω:Nat->Option Loc}{w w' w0:World}{hp:qf}{env:Env}{a:Act}{o:Oper}{tmps:Array Value}{d:Loc}
theorem q44 {n sz len cap:Nat}{base:Option Addr}{cs:List Value}(hl:cs.length=n*sz)(h:∀ad,base=En ad->∀j v,cs[j]?=En v->w.cell? (ad.add j)=En v)(hn:base=Ha->n=0):
  (Builtin.firstCells sz n (.slice base len cap)).run P w=.ok cs.toArray w:=by
 cases base with
 |none=>
  have:cs=[]:=by
   have:=hn rfl;subst this;exact List.length_eq_zero_iff.1 (by simpa using hl)
  subst this;exact run_firstCells_none _ _ _ _ _
 |some ad=>exact run_firstCells_some w _ _ _ _ _ cs hl (h ad rfl)
theorem jkq (m:aA P C ω w0 C0 hp w)(e:ar C ω w w0.heap.size env a.tmps){c:Call}{t:TypeId}{ts:List TypeId}{el:TypeId}{x y x' y' sz b q len n vy us cs eF h'}
  (ho:o.op=.call c) (ea:c.callee=.builtin .copy) (ep:c.args.toList=[x,y]) (eQ:c.argTypes.toList=t::ts) (ht:P.underlying t=En (.slice el)) (hn:js P el=En sz)
  (Y:qq x=En x') (I:qq y=En y') (e1:qh env x'=En (.ms b q len)) (e2:qh env y'=En vy) (jN:qw hp b=En cs) (cT:AA sz len vy=En (n,us)) (ct:jw cs q us=En eF) (Tl:us.length=n*sz) (bK:j0 hp b (.cells eF)=En h'):
  ∃u w',(execOp a.eval o).run P w=.ok (.value u) w'/\zu P C0 w0 C a.tmps d env ⟨.int .i64 n,Hb,Ha,h'⟩ u w':=by
 obtain⟨r,cap,Q,hle,hq⟩:=(qt e.cw Y e1).eZ;have ry:=qt e.cw I e2;unfold jw at ct
 cases hb:(Y9 (q+us.length) cs.length&&us.all qk)with
 |false=>simp[hb]at ct
 |true=>
  simp only[hb,cond_true,En.injEq]at ct;simp only[I6]at hb;subst ct
  -- the source
  obtain⟨news,base,sl,sc,hy,dc,hcells,TV,sE⟩:∃news base sl sc,a.eval y=.slice base sl sc/\bj C us news/\(∀ad,base=En ad->∀j v,news[j]?=En v->w.cell? (ad.add j)=En v)/\Nat.min sl len=n/\(base=Ha->n=0):=by
   unfold AA at cT;split at cT
   .rename_i nn sy ys
    cases hk:(I9 sz sy||ys.isEmpty)with
    |false=>simp[hk]at cT
    |true=>
     simp only[hk,cond_true,En.injEq,Prod.mk.injEq]at cT;obtain⟨rfl,rfl⟩:=cT;generalize a.eval y=vv at ry
     cases ry with
     |jV=>exact⟨[],Ha,0,0,rfl,by simpa using aM.nil,by simp,by simp[Nat.min_def],by simp⟩|jW _ ad _=>exact⟨[],En ad,0,0,rfl,by simpa using aM.nil,by simp,by simp,by simp⟩
     |list _ _ r' o' lF hl cY=>
      have hc:cD C r' ((ys.take len).flatMap AVal.flat) o':=bB.cells (bB.take len cY);obtain⟨vs,k1,k2⟩:=hc.vals;refine⟨vs,En ⟨r',o',Ha⟩,ys.length,lF,rfl,k1,?_,rfl,by simp⟩;intro ad had j v hj;cases had;rw[add_lit];exact m.know _ _ _ (k2 j v hj)
   .cases cT
  have de:=AW dc (by simpa using hb.2);obtain⟨vs,te,hg,cH,m',e'⟩:=q7a m e (wm jN) Q dc de (Nx hb.1);obtain rfl:=A3 bK;have hfc:=q44 (P:=P) (w:=w) (n:=n) (sz:=sz) (len:=sl) (cap:=sc) (base:=base) (cs:=news) (by rw[dc.length,Tl]) hcells sE;have Il:=run_storeCells_at (P:=P) r q te news 0 vs w hg (by simpa using cH) de;simp only[Z4]at Il
  have bF:(Builtin.copy_ c.argTypes o.type (c.args.map a.eval)).run P w=.ok (goInt n) (w.setRow r (vs.toList.take q++news++vs.toList.drop (q+news.length)).toArray):=by
   have ha:c.args.map a.eval=#[a.eval x,a.eval y]:=by
    apply Ja;simp[ep]
   have hat:c.argTypes[0]?=En t:=by rw[<-Iy,eQ];rfl
   rw[ha];simp only[Builtin.copy_,hat,I2,St,Ld,Sem.run_bind,run_underlying ht,Result.andThen_ok,hq,hy,Builtin.lenOf,Sem.run_pure,TV,yz hn,hfc,Il]
  refine⟨goInt n,_,?_,C,ω,aQ.le_refl C,m',e',?_,by simp⟩
  .have ha:Array.map a.eval c.args=#[a.eval x,a.eval y]:=by
    apply Ja;simp[ep]
   rw[ha]at bF;simp[execOp,ho,resolve,ea,ha,invoke,builtin,bF]
  .exact .int _ _
theorem cI.erase:∀ {es:List (AVal×AVal)} {ms:List MapEntry} (j:Nat),cI C es ms->cI C (es.eraseIdx j) (ms.eraseIdx j)
 |_,_,j,.nil=>by simpa using cI.nil
 |_,_,0,.cons k' v' es m' ms Y I h3=>by simpa using h3
 |_,_,j+1,.cons k' v' es m' ms Y I h3=>by simpa using .cons _ _ _ _ _ Y I (cI.erase j h3)
theorem jdf (m:aA P C ω w0 C0 hp w)(e:ar C ω w w0.heap.size env a.tmps){c}{t kt el:TypeId}{ts x y x' y' kd kv b es h' r}
  (ho:o.op=.call c) (ea:c.callee=.builtin .delete) (ep:c.args.toList=[x,y]) (eQ:c.argTypes.toList=t::ts) (ht:P.underlying t=En (.map kt el)) (iP:lA P kt=En kd)
  (Y:qq x=En x') (I:qq y=En y') (e1:qh env x'=En (.map b)) (e2:qh env y'=En kv) (hb:hp[b]?=En (.map es))
  (hf:za kd kv es 0=En r) (bK:j0 hp b (.map (q7r es r))=En h'):
  ∃u w',(execOp a.eval o).run P w=.ok (.value u) w'/\zu P C0 w0 C a.tmps d env ⟨.aJ [],Hb,Ha,h'⟩ u w':=by
 have iu:=qt e.cw I e2;have uy:=qt e.cw Y e1;obtain⟨td,sM⟩:=TS iP
 have ha:Array.map a.eval c.args=#[a.eval x,a.eval y]:=by
  apply Ja;simp[ep]
 have hat:c.argTypes[0]?=En t:=by rw[<-Iy,eQ];rfl
 generalize nw:a.eval x=mx at uy
 cases uy with
 |map _ q pM=>
  obtain⟨cr,clock,g1,g2⟩:=m.box b _ q hb pM;have bg:=(m.lt b q pM).1
  have done:∀(uD:List (AVal×AVal)) (sN:Array MapEntry),cI C uD sN.toList->j0 hp b (.map uD)=En h' ->
    (Builtin.delete_ c.argTypes o.type #[.map (En q),a.eval y]).run P w=.ok (.tuple #[]) (ko w q (.map sN clock))->∃u w',(execOp a.eval o).run P w=.ok (.value u) w'/\zu P C0 w0 C a.tmps d env ⟨.aJ [],Hb,Ha,h'⟩ u w':=by
   intro uD sN wv bK bF;obtain rfl:=A3 bK;have hu:=FD (w:=w) (r:=q) (x:=.map sN clock) bg (by simp);refine⟨.tuple #[],_,?_,C,ω,aQ.le_refl C,m.dX hu pM _ (fun _ _ _ _ _ h=>h) ⟨sN,clock,Ie bg,wv⟩,e.dK hu pM,.aJ _ _ .nil,by simp⟩;simp[execOp,ho,resolve,ea,ha,nw,invoke,builtin,bF]
  have hfn:=Ih sM iP iu g2 hf
  cases r with
  |none=>
   have uz:=Ii (w:=w) sM hfn;refine done es cr g2 bK ?_;have gj:=xY (P:=P) (x:=.map cr clock) g1 (by simp);simp only[Builtin.delete_,hat,I2,St,Ld,Sem.run_bind,run_underlying ht,Result.andThen_ok,rn g1 (by simp),FE iP,uz,gj,Sem.run_pure]
  |some jv=>
   obtain⟨j,v⟩:=jv;obtain⟨me,_,k1,k2,k3,k4,k5,k6⟩:=hfn;have uz:=Ii (w:=w) sM k5;refine done (es.eraseIdx j) (cr.eraseIdxIfInBounds j) ?_ bK ?_
   .have:(cr.eraseIdxIfInBounds j).toList=cr.toList.eraseIdx j:=by simp
    rw[this];exact cI.erase j g2
   .have gj:=xY (P:=P) (x:=.map (cr.eraseIdxIfInBounds j) clock) g1 (by simp);simp only[Builtin.delete_,hat,I2,St,Ld,Sem.run_bind,run_underlying ht,Result.andThen_ok,rn g1 (by simp),FE iP,uz,gj,Sem.run_pure]
end
section
variable {P:Program}{p:j8}{xc:XC}{C C0:aQ}{ω:Nat->Option Loc}{w w0:World}{hp:qf}{env:Env}{a:Act}{o:Oper}{d:Loc}{h:jx}{md:eN}{r h0:Nat}{dst:Option Nat}{al:ak Nat}{cM:cG}{res:bu}
def yr (P:Program)(C C0:aQ)(w0:World)(a:Act)(d:Loc)(env:Env)(o:Oper)(w:World)(res:bu):Prop:=
 (∃v w',(execOp a.eval o).run P w=.ok (.value v) w'/\zu P C0 w0 C a.tmps d env res v w') \/
 (∃w',(execOp a.eval o).run P w=.ok .skip w'/\zu P C0 w0 C a.tmps d env res undef w') \/
 (∃f args,(execOp a.eval o).run P w=.ok (.enter f args) w/\CallsIn Fence.wide 0 P f args w fun e w'=>∃v,e=.returned v/\zu P C0 w0 C a.tmps d env res v w') \/
 (∃l f tmps assign body,(execOp a.eval o).run P w=.ok (.round l f tmps assign body) w/\RoundIn Fence.wide 0 P l f tmps assign body w fun e w'=>∃v,e=.returned v/\zu P C0 w0 C a.tmps d env res v w')
theorem jl (m:aA P C ω w0 C0 hp w)(e:ar C ω w w0.heap.size env a.tmps){x}(hv:Val P C a o w x):yr P C C0 w0 a d env o w ⟨x,Hb,Ha,hp⟩:=by
 obtain⟨v,Y,I⟩:=hv;exact .inl ⟨v,w,Y,q99 m e I⟩
theorem qx {x}(G:val hp x=En res):res=⟨x,Hb,Ha,hp⟩:=by simpa[val]using G.symm
theorem uH {x}(G:gK hp x=En res):∃v,x=En v/\res=⟨v,Hb,Ha,hp⟩:=by
 cases x with
 |none=>simp[gK]at G|some v=>exact⟨v,rfl,by simpa[gK]using G.symm⟩
theorem Nq (m:aA P C ω w0 C0 hp w)(e:ar C ω w w0.heap.size env a.tmps){x}(ho:o.op=.move x\/o.op=.assign x){y}(hc:qq x=En y)(G:ql env hp (.move y)=En res):yr P C C0 w0 a d env o w res:=by
 simp only[ql]at G;obtain⟨v,hv,rfl⟩:=uH G;exact jl m e (jqc e.cw ho hc hv)
theorem FF (m:aA P C ω w0 C0 hp w)(e:ar C ω w w0.heap.size env a.tmps){s}(ho:o.op=.move (.tmp s)\/o.op=.assign (.tmp s))(G:ql env hp (.take s)=En res):yr P C C0 w0 a d env o w res:=by
 simp only[ql]at G;split at G
 .rename_i v ow hl;cases G;exact .inl (jps m e ho hl)
 .cases G
theorem jpd (m:aA P C ω w0 C0 hp w)(e:ar C ω w w0.heap.size env a.tmps){x}(ho:o.op=.move x)(hc:cS P h md r dst (.move x)=En cM)(G:qe p xc h0 al env hp cM=En res):yr P C C0 w0 a d env o w res:=by
 simp only[cS]at hc;split at hc
 .rename_i s ht;cases hc;unfold jcb at ht;split at ht
  .split at ht
   .cases ht;exact FF m e (.inl ho) G
   .cases ht
  .cases ht
 .obtain⟨y,hy,rfl⟩:=E6.1 hc;exact Nq m e (.inl ho) hy G
theorem jdy (m:aA P C ω w0 C0 hp w)(e:ar C ω w w0.heap.size env a.tmps){x}(ho:o.op=.assign x)(hc:cS P h md r dst (.assign x)=En cM)(G:qe p xc h0 al env hp cM=En res):yr P C C0 w0 a d env o w res:=by
 cases x with
 |tmp s=>simp only[cS]at hc;cases hc;exact FF m e (.inr ho) G|const v=>simp only[cS]at hc;obtain⟨y,hy,rfl⟩:=E6.1 hc;exact Nq m e (.inr ho) hy G|func v=>simp only[cS]at hc;obtain⟨y,hy,rfl⟩:=E6.1 hc;exact Nq m e (.inr ho) hy G|global v=>simp only[cS]at hc;obtain⟨y,hy,rfl⟩:=E6.1 hc;exact Nq m e (.inr ho) hy G
theorem joc (m:aA P C ω w0 C0 hp w)(e:ar C ω w w0.heap.size env a.tmps){c x y}(ho:o.op=.pick c x y)(hc:cS P h md r dst (.pick c x y)=En cM)(G:qe p xc h0 al env hp cM=En res):yr P C C0 w0 a d env o w res:=by
 simp only[cS]at hc;split at hc
 .rename_i c' x' y' Y I h3;cases hc;simp only[qe,ql]at G;split at G
  .rename_i b e1;split at G
   .rename_i u v e2 e3;obtain rfl:=qx G;exact jl m e (jqd e.cw ho Y I h3 e1 e2 e3)
   .cases G
  .cases G
 .cases hc
theorem q74 (m:aA P C ω w0 C0 hp w)(e:ar C ω w w0.heap.size env a.tmps){x}(ho:o.op=.nilCheck x)(hc:cS P h md r dst (.nilCheck x)=En cM)(G:qe p xc h0 al env hp cM=En res):yr P C C0 w0 a d env o w res:=by
 simp only[cS]at hc;obtain⟨y,hy,rfl⟩:=E6.1 hc;simp only[qe,ql]at G;split at G
 .rename_i b q hv;obtain rfl:=qx G;exact jl m e (qsh e.cw ho hy hv (.inl ⟨_,_,rfl⟩))
 .rename_i z hv;obtain rfl:=qx G;exact jl m e (qsh e.cw ho hy hv (.inr ⟨_,rfl⟩))
 .rename_i f u v hv;obtain rfl:=qx G;have Q:=qt e.cw hy hv;refine jl m e ⟨a.eval x,?_,Q⟩;generalize M:a.eval x=ev at Q
  cases Q with
  |fn f f' u v as bs hf ha hb=>
   simp only[fJ]at hf;subst hf;simp[execOp,ho,M]
 .cases G
theorem jv9 (m:aA P C ω w0 C0 hp w)(e:ar C ω w w0.heap.size env a.tmps){op}{t:TypeId}{x}(ho:o.op=.unOp op t x)(hc:cS P h md r dst (.unOp op t x)=En cM)(G:qe p xc h0 al env hp cM=En res):yr P C C0 w0 a d env o w res:=by
 simp only[cS]at hc;obtain⟨y,hy,rfl⟩:=E6.1 hc;simp only[qe,ql]at G;split at G
 .rename_i v hv;obtain⟨u,hu,rfl⟩:=uH G;exact jl m e (j2f e.cw ho hy hv hu)
 .cases G
theorem q4o {C:aQ}{r:Nat}:∀ {xs:List AVal} {o:Nat} {s:aj},bB C r 1 xs o->Az xs=En s->∃ns:List Int,ns.length=xs.length/\(∀j v,(ns.map (Value.int .u8))[j]?=En v->C.K r (o+j)=En v)/\s=ns.map (fun n=>Tn n.toNat)
 | [],o,s,_,hb=>by
  cases hb;exact⟨[],rfl,by simp,rfl⟩
 |x::xs,o,s,h,hb=>by
  cases h with
  |dp _ _ _ _ _ G M h=>
   unfold Az at hb;split at hb
   .rename_i e;cases e
   .rename_i n ys e;cases e;split at hb
    .rename_i t ht;cases hb;obtain⟨ns,k1,k2,k3⟩:=q4o h ht
     cases M with
     |dz _ _ _ _ v hv M _=>
      cases M;refine⟨n::ns,by simp[k1],?_,by rw[k3];rfl⟩;intro j v hj
      cases j with
      |zero=>simp at hj;subst hj;exact hv|succ j=>simp only[Ug,Ld]at hj;rw[show o+(j+1)=o+1+j from by omega];exact k2 j v hj
    .cases hb
   .cases hb
theorem qyu:∀ (ns:List Int) (l:aj),ns.foldl (fun r n=>r.push (Tn n.toNat)) (ByteArray.mk ⟨l⟩)=ByteArray.mk ⟨l++ns.map (fun n=>Tn n.toNat)⟩
 | [],l=>by simp
 |n::ns,l=>by
  have h:(ByteArray.mk ⟨l⟩).push (Tn n.toNat)=ByteArray.mk ⟨l++[Tn n.toNat]⟩:=by
   unfold ByteArray.push;simp
  rw[List.foldl_cons,h,qyu ns,Ug,Jw];rfl
theorem jhc (m:aA P C ω w0 C0 hp w)(he:bz C env a.tmps){s d e:TypeId}{x x' xs l n}(ho:o.op=.convert s d x)(G:P.underlying s=En (.slice e))(hu:P.underlying e=En (.int .u8))(hd:P.underlying d=En .string)
  (Y:qq x=En x') (e1:qh env x'=En (.list n 1 xs)) (hb:Az xs=En l):Val P C a o w (.str l):=by
 have key:∀(ad:Addr) (len cap:Nat) (ns:List Int),a.eval x=.slice (En ad) len cap->ns.length=len->(∀j v,(ns.map (Value.int .u8))[j]?=En v->w.cell? (ad.add j)=En v)->l=ns.map (fun n=>Tn n.toNat)->Val P C a o w (.str l):=by
  intro ad len cap ns hq hl hc Io;have oT:=run_loadCells_list (P:=P) w ad (ns.map (Value.int .u8)) hc;rw[Uz,hl]at oT;have bF:=run_bytesToString (P:=P) w ad len cap ns oT;have hf:=qyu ns [];refine⟨.string ⟨⟨l⟩⟩,?_,.str _⟩;rw[show ByteArray.empty=ByteArray.mk ⟨[]⟩from rfl,hf,Qf,<-Io]at bF;simp[execOp,ho,hq,convert,run_underlying G,run_underlying hd,run_underlying hu,bF]
 rcases(qt he Y e1).cQ with⟨rfl,rfl,hq⟩|⟨rfl,r,q,cap,hq,_,cY⟩|⟨rfl,rfl,ad,kQ,hq⟩
 .cases hb;refine⟨.string ⟨⟨[]⟩⟩,?_,.str _⟩;simp[execOp,ho,hq,convert,run_underlying G,run_underlying hd,run_underlying hu,Conv.bytesToString];rfl
 .obtain⟨ns,k1,k2,k3⟩:=q4o cY hb;exact key _ _ _ ns hq k1 (fun j v hj=>by rw[add_lit];exact m.know _ _ _ (k2 j v hj)) k3
 .cases hb;exact key ad 0 0 [] hq rfl (by simp) rfl
theorem jpx (m:aA P C ω w0 C0 hp w)(e:ar C ω w w0.heap.size env a.tmps){s t:TypeId}{x}(ho:o.op=.convert s t x)(hc:cS P h md r dst (.convert s t x)=En cM)(G:qe p xc h0 al env hp cM=En res):yr P C C0 w0 a d env o w res:=by
 simp only[cS]at hc;split at hc
 .rename_i k0 k u1 u2;obtain⟨y,hy,rfl⟩:=E6.1 hc;simp only[qe,ql]at G;split at G
  .rename_i k1 n hv;obtain rfl:=qx G;exact jl m e (jo4 e.cw ho u1 u2 hy hv)
  .cases G
 .rename_i u1 u2;obtain⟨y,hy,rfl⟩:=E6.1 hc;simp only[qe,ql]at G;split at G
  .rename_i l hv;obtain rfl:=qx G;exact jl m e (jam e.cw ho u1 u2 hy hv ⟨_,rfl⟩)
  .rename_i k1 n hv;obtain rfl:=qx G;exact jl m e (q9q e.cw ho u1 u2 hy hv)
  .cases G
 .rename_i k0 u1 u2;obtain⟨y,hy,rfl⟩:=E6.1 hc;simp only[qe,ql]at G;split at G
  .rename_i l hv;obtain rfl:=qx G;exact jl m e (jab e.cw ho u1 u2 hy hv ⟨_,rfl⟩)
  .rename_i k1 n hv;obtain rfl:=qx G;exact jl m e (ja8 e.cw ho u1 u2 hy hv)
  .cases G
 .rename_i e0 u1 u2;split at hc
  .rename_i u3;obtain⟨y,hy,rfl⟩:=E6.1 hc;simp only[qe,ql]at G;split at G
   .rename_i nn xs hv;split at G
    .rename_i l hl;obtain rfl:=qx G;exact jl m e (jhc m e.cw ho u1 u3 u2 hy hv hl)
    .cases G
   .cases G
  .cases hc
 .cases hc
theorem jb2 {ag n y}(G:ql env hp (.eV ag n y)=En res):yt h0 al env hp (.load ag n y)=En res:=by
 simp only[ql]at G;simp only[yt];split at G
 .rename_i v hv;rw[hv];exact G
 .cases G
theorem q39 {g}:∀ {l:List (String×List Int)} {cs:List Int},HA P g l=En cs->∃n,(n,cs)∈l/\P.globalNamed n=En g
 | [],_,h=>by simp[HA]at h
 |(n,ds)::l,cs,h=>by
  simp only[HA]at h;split at h
  .rename_i hn;cases h;exact⟨n,Zw ..,by simpa using hn⟩
  .obtain⟨n',Y,I⟩:=q39 h;exact⟨n',V9 _ Y,I⟩
theorem jjo {ns:List Int}:bj C (ns.map (AVal.int .i64)) (ns.map (Value.int .i64)):=by
 induction ns with
 |nil=>exact .nil|cons n ns ih=>exact .cons _ _ _ _ (.int _ _) ih
theorem ji4 (m:aA P C ω w0 C0 hp w)(e:ar C ω w w0.heap.size env a.tmps){t:TypeId}{g}(ho:o.op=.load t (.global g))(hc:cS P h md r dst (.load t (.global g))=En cM)(G:qe p xc h0 al env hp cM=En res):yr P C C0 w0 a d env o w res:=by
 have hc:MZ P t g=En cM:=hc;unfold MZ at hc;split at hc
 .rename_i cs n hf hg hn;split at hc
  .rename_i hl;cases hc
   have hl:cs.length=n:=by simpa using hl
   simp only[qe,ql,qh]at G;obtain⟨u,hu,rfl⟩:=uH G;cases hu;obtain⟨nm,dl,hnm⟩:=q39 hf;have ht:=(m.tabs g (.inr (.inr ⟨_,dl,hnm⟩))).2.2.2 _ dl hnm
   have eh:∀j v,(cs.map (Value.int .i64))[j]?=En v->w.cell? ⟨g,0+j,Ha⟩=En v:=by
    intro j v hj;rw[Ll,E6]at hj;obtain⟨i,hi,rfl⟩:=hj;rw[Eaa];exact ht j i hi
   have oT:=HZ (P:=P) (w:=w) hg hn (vs:=cs.map (Value.int .i64)) (by simpa using hl) eh;refine jl m e ⟨.agg ⟨cs.map (Value.int .i64)⟩,?_,.agg _ _ jjo⟩;have eR:a.eval (.global g)=.pointer (En ⟨g,0,Ha⟩):=rfl;simp[execOp,ho,Instr.loadAt,eR,Instr.sureAddr,oT]
  .cases hc
 .cases hc
theorem jn8 (m:aA P C ω w0 C0 hp w)(e:ar C ω w w0.heap.size env a.tmps){t:TypeId}{x}(ho:o.op=.load t x)(hc:cS P h md r dst (.load t x)=En cM)(G:qe p xc h0 al env hp cM=En res):yr P C C0 w0 a d env o w res:=by
 have key:∀ {ag:Bool} {n:Nat} {y:ju},y5 P t=En ag->js P t=En n->(ag=Hb->n=1)->qq x=En y->yt h0 al env hp (.load ag n y)=En res->yr P C C0 w0 a d env o w res:=by
  intro ag n y hg hn H4 hy G;simp only[yt]at G;split at G
  .rename_i b q hv
   cases hk:zf h0 al b with
   |false=>simp[hk]at G
   |true=>
    simp only[hk,cond_true]at G;split at G
    .rename_i cs hcs;split at G
     .rename_i us hO
      cases ag with
      |true=>
       simp only[cond_true]at G;obtain rfl:=qx G;exact jl m e (TA m e.cw ho hg hn H4 hy hv (.inl ⟨b,q,cs,us,rfl,hcs,hO,.inl ⟨rfl,rfl⟩⟩))
      |false=>
       simp only[cond_false]at G;split at G
       .obtain rfl:=qx G;exact jl m e (TA m e.cw ho hg hn H4 hy hv (.inl ⟨b,q,cs,_,rfl,hcs,hO,.inr ⟨rfl,rfl⟩⟩))
       .cases G
     .cases G
    .cases G
  .rename_i z hv
   cases hk:(Bool.xor ag z.isAgg||!(I9 z.flat.length n))with
   |true=>simp[hk]at G
   |false=>
    simp only[hk,cond_false]at G;obtain rfl:=qx G;simp only[Bool.or_eq_false_iff,Bool.not_eq_false']at hk;exact jl m e (TA m e.cw ho hg hn H4 hy hv (.inr ⟨rfl,hk.1,H2 hk.2⟩))
  .rename_i b bN q hv
   cases hk:sj h0 al b with
   |false=>simp[hk]at G
   |true=>
    simp only[hk,cond_true]at G;split at G
    .rename_i sz dJ xs gR
     cases dw:(I9 bN dJ&&Y9 (q+n) (xs.flatMap AVal.flat).length)with
     |false=>rw[dw]at G;cases G
     |true=>
      rw[dw]at G;simp only[cond_true]at G;simp only[I6]at dw;obtain rfl:=H2 dw.1;have hl:=Nx dw.2
      cases ag with
      |true=>
       simp only[cond_true]at G;obtain rfl:=qx G;exact jl m e (q34 m e.cw ho hg hn hy hv gR hl (.inl ⟨rfl,rfl⟩))
      |false=>
       simp only[cond_false]at G;split at G
       .rename_i z hz;obtain rfl:=qx G;exact jl m e (q34 m e.cw ho hg hn hy hv gR hl (.inr ⟨rfl,hz⟩))
       .cases G
    .cases G
  .cases G
 by_cases M:∃g,x=.global g
 .obtain⟨g,rfl⟩:=M;exact ji4 m e ho hc G
 have hc:(match y5 P t,js P t,qq x with
  |some Hb,En 1,En x=>if(dst.map (h.takes.contains ·)).getD Hb then En (cG.cx ((dst.bind fun d=>h.AE.find? fun y=>y.1 == d).map (·.2)) x)else En (bif (dst.map (h.vl.contains ·)).getD Hb then .eV Hb 1 x else .load Hb 1 x)
  |some Hc,En n,En x=>En (bif (dst.map (h.vl.contains ·)).getD Hb then .eV Hc n x else .load Hc n x)
  |_,_,_=>Ha)=En cM:=by
  cases x with
  |global g=>exact absurd ⟨g,rfl⟩ M|_=>exact hc
 split at hc
 .rename_i y hg hn hy;split at hc
  .cases hc;simp only[qe,qn]at G;split at G
   .rename_i b q hv;generalize (zf h0 al b&&xH _ q)=kk at G
    cases kk with
    |false=>simp at G
    |true=>
     simp only[cond_true]at G;split at G
     .rename_i cs hcs;split at G
      .rename_i v ow hq;split at G
       .rename_i h' bK;cases G;exact .inl (q7b m e ho hg hy hv hcs hq bK)
       .cases G
      .cases G
     .cases G
   .cases G
  .cases hc;generalize (dst.map (h.vl.contains ·)).getD Hb=bb at G
   cases bb with
   |false=>exact key hg hn (fun _=>rfl) hy G|true=>exact key hg hn (fun _=>rfl) hy (jb2 G)
 .rename_i n y hg hn hy;cases hc;generalize (dst.map (h.vl.contains ·)).getD Hb=bb at G
  cases bb with
  |false=>exact key hg hn (by simp) hy G|true=>exact key hg hn (by simp) hy (jb2 G)
 .cases hc
theorem jka (m:aA P C ω w0 C0 hp w)(e:ar C ω w w0.heap.size env a.tmps){t:TypeId}{x y}(ho:o.op=.store t x y)(n6:cM.ij=Ha)(hc:cS P h md r dst (.store t x y)=En cM)(G:qe p xc h0 al env hp cM=En res):yr P C C0 w0 a d env o w res:=by
 simp only[cS]at hc;split at hc
 .rename_i n x' y' hn Y I
  cases mQ:M0 h x' with
  |some s=>rw[mQ]at hc;simp only[En.injEq]at hc;subst hc;simp[cG.ij]at n6
  |none=>
  rw[mQ]at hc;simp only[En.injEq]at hc;subst hc;simp only[qe,qn]at G;split at G
  .rename_i b q v e1 e2
   cases hk:zf h0 al b with
   |false=>simp[hk]at G
   |true=>
    simp only[hk,cond_true]at G;split at G
    .rename_i cs hcs;split at G
     .rename_i s cZ
      cases hb:(I9 n 1&&v.cP&&Eah q cs.length)with
      |false=>simp[hb]at G
      |true=>
       simp only[hb,cond_true]at G;simp only[I6]at hb;obtain⟨⟨jM,nx⟩,Ip⟩:=hb;obtain rfl:=H2 jM;split at G
       .rename_i h' bK;cases G;exact .inr (.inl (q69 m e ho hn Y I e1 e2 hcs nx (Ead.mp Ip) cZ bK))
       .cases G
     .cases hb:I9 v.flat.length n with
      |false=>simp[hb]at G
      |true=>
       simp only[hb,cond_true]at G;split at G
       .rename_i eF ct;split at G
        .rename_i h' bK;obtain rfl:=qx G;exact .inr (.inl (jju m e ho hn Y I e1 e2 hcs (H2 hb) ct bK))
        .cases G
       .cases G
    .cases G
  .cases G
 .cases hc
theorem jie {P}{t:TypeId}{e:TypeId}(h:S5 P t=En e):∃sz,y7 P t=En [.b6,.list Hc sz []]:=by
 unfold S5 at h;split at h
 .split at h
  .split at h
   .split at h
    .rename_i sz Y I;exact⟨_,I⟩
    .cases h
   .cases h
  .cases h
 .cases h
theorem jh1 (m:aA P C ω w0 C0 hp w)(e:ar C ω w w0.heap.size env a.tmps){t:TypeId}(ho:o.op=.alloc t)(hc:cS P h md r dst (.alloc t)=En cM)(G:qe p xc h0 al env hp cM=En res):yr P C C0 w0 a d env o w res:=by
 simp only[cS]at hc;split at hc
 .rename_i e' he;cases hc;obtain⟨sz,hz⟩:=jie he;simp only[qe,qn]at G;split at G
  .rename_i h' hn;obtain rfl:=qx G;exact .inl (jse m e ho hz hn)
  .cases G
 generalize (dst.map (h.vl.contains ·)).getD Hb=bb at hc
 cases bb with
 |true=>
  simp only[cond_true]at hc;split at hc
  .rename_i z hz
   cases hb:z.all qk with
   |false=>rw[hb]at hc;cases hc
   |true=>
    rw[hb]at hc;simp only[cond_true,En.injEq]at hc;subst hc;simp only[qe,ql,En.injEq]at G;subst G;exact .inl (jeq m e ho hz)
  .cases hc
 |false=>
 simp only[cond_false]at hc;obtain⟨z,hz,rfl⟩:=E6.1 hc;simp only[qe,qn]at G
 cases hb:z.all qk with
 |false=>simp[hb]at G
 |true=>
  simp only[hb,cond_true]at G;split at G
  .rename_i h' hn;obtain rfl:=qx G;exact .inl (jii m e ho hz (by simpa using hb) hn)
  .cases G
theorem jtx (m:aA P C ω w0 C0 hp w)(e:ar C ω w w0.heap.size env a.tmps){t:TypeId}{x}(ho:o.op=.box t x)(hc:cS P h md r dst (.box t x)=En cM)(G:qe p xc h0 al env hp cM=En res):yr P C C0 w0 a d env o w res:=by
 simp only[cS]at hc;split at hc
 .rename_i n x' hn Y;cases hc;generalize (dst.map (h.vl.contains ·)).getD Hb=bb at G
  cases bb with
  |true=>
   simp only[cond_true,qe,ql]at G;split at G
   .rename_i v hv
    cases hb:(I9 v.flat.length n&&v.flat.all qk)with
    |false=>simp[hb]at G
    |true=>
     simp only[hb,cond_true]at G;simp only[I6]at hb;obtain rfl:=qx G;exact .inl (jou m e ho Y hv hb.2)
   .cases G
  |false=>
   simp only[cond_false]at G;simp only[qe,qn]at G;split at G
   .rename_i v hv
    cases hb:(I9 v.flat.length n&&v.flat.all qk)with
    |false=>simp[hb]at G
    |true=>
     simp only[hb,cond_true]at G;simp only[I6]at hb;split at G
     .rename_i h' jY;obtain rfl:=qx G;exact .inl (jva m e ho Y hv hb.2 jY)
     .cases G
   .cases G
 .cases hc
theorem jav (m:aA P C ω w0 C0 hp w)(e:ar C ω w w0.heap.size env a.tmps){i x}(ho:o.op=.extract x i)(hc:cS P h md r dst (.extract x i)=En cM)(G:qe p xc h0 al env hp cM=En res):yr P C C0 w0 a d env o w res:=by
 simp only[cS]at hc;obtain⟨y,hy,rfl⟩:=E6.1 hc;simp only[qe,ql]at G;split at G
 .rename_i vs hv;obtain⟨u,hu,rfl⟩:=uH G;exact jl m e (jaq e.cw ho hy hv hu)
 .cases G
theorem q6r (m:aA P C ω w0 C0 hp w)(e:ar C ω w w0.heap.size env a.tmps){f xs ys}(ho:o.op=.makeFunc f xs ys)(hc:cS P h md r dst (.makeFunc f xs ys)=En cM)(G:qe p xc h0 al env hp cM=En res):yr P C C0 w0 a d env o w res:=by
 simp only[cS]at hc;split at hc
 .split at hc
  .rename_i k fT oQ Y I;cases hc;simp only[qe,ql]at G;split at G
   .rename_i us vs e1 e2;obtain rfl:=qx G;exact jl m e (jdt e.cw ho Y I e1 e2)
   .cases G
  .cases hc
 .cases hc
theorem jan (m:aA P C ω w0 C0 hp w)(e:ar C ω w w0.heap.size env a.tmps){t:TypeId}{x}(ho:o.op=.makeMap t x)(hc:cS P h md r dst (.makeMap t x)=En cM)(G:qe p xc h0 al env hp cM=En res):yr P C C0 w0 a d env o w res:=by
 cases x with
 |some x=>simp[cS]at hc
 |none=>
  simp only[cS]at hc;split at hc
  .cases hc;simp only[qe,qn]at G;split at G
   .rename_i h' hn;obtain rfl:=qx G;exact .inl (jgu m e ho hn)
   .cases G
  .cases hc
theorem ji0 (m:aA P C ω w0 C0 hp w)(e:ar C ω w w0.heap.size env a.tmps){t:TypeId}{x}(ho:o.op=.range t x)(hc:cS P h md r dst (.range t x)=En cM)(G:qe p xc h0 al env hp cM=En res):yr P C C0 w0 a d env o w res:=by
 simp only[cS]at hc;split at hc
 .rename_i ht;obtain⟨y,hy,rfl⟩:=E6.1 hc;simp only[qe,qn]at G;split at G
  .rename_i s hv;split at G
   .rename_i h' hn;obtain rfl:=qx G;exact .inl (jef m e ho ht hy hv hn)
   .cases G
  .cases G
 .cases hc
theorem Nr (m:aA P C ω w0 C0 hp w)(e:ar C ω w w0.heap.size env a.tmps){x b}(ho:o.op=.next x b)(hc:cS P h md r dst (.next x b)=En cM)(G:qe p xc h0 al env hp cM=En res):yr P C C0 w0 a d env o w res:=by
 cases b with
 |false=>simp[cS]at hc
 |true=>
  simp only[cS]at hc;obtain⟨y,hy,rfl⟩:=E6.1 hc;simp only[qe,qn]at G;split at G
  .rename_i b hv
   cases hk:zf h0 al b with
   |false=>simp[hk]at G
   |true=>
    simp only[hk,cond_true]at G;split at G
    .rename_i s pos hb;obtain⟨k1,k2⟩:=jhm (d:=d) m e ho hy hv hb
     cases hp:Eah pos s.length with
     |true=>
      simp only[hp,cond_true]at G;split at G
      .rename_i h' bK;obtain rfl:=qx G;exact .inl (k1 (Ead.mp hp) h' bK)
      .cases G
     |false=>
      simp only[hp,cond_false]at G;obtain rfl:=qx G;exact .inl (k2 (fun h=>by rw[Ead.mpr h]at hp;cases hp))
    .cases G
  .cases G
theorem jc8 (m:aA P C ω w0 C0 hp w)(e:ar C ω w w0.heap.size env a.tmps){t:TypeId}{x y ok}(ho:o.op=.lookup t x y ok)(hc:cS P h md r dst (.lookup t x y ok)=En cM)(G:qe p xc h0 al env hp cM=En res):yr P C C0 w0 a d env o w res:=by
 simp only[cS]at hc;split at hc
 .rename_i kt el ht;split at hc
  .rename_i kd z x' y' iP hz Y I;cases hc;simp only[qe,yt]at G;split at G
   .rename_i b kv e1 e2
    cases hk:zf h0 al b with
    |false=>simp[hk]at G
    |true=>
     simp only[hk,cond_true]at G;split at G
     .rename_i es hb;split at G
      .rename_i i v hf;obtain rfl:=qx G;exact jl m e (TT m e ho ht iP hz Y I e1 e2 (.inr ⟨b,es,rfl,hb,hf⟩))
      .rename_i hf;obtain rfl:=qx G;exact jl m e (TT m e ho ht iP hz Y I e1 e2 (.inr ⟨b,es,rfl,hb,hf⟩))
      .cases G
     .cases G
   .rename_i kv e1 e2;obtain rfl:=qx G;exact jl m e (TT m e ho ht iP hz Y I e1 e2 (.inl ⟨rfl,rfl⟩))
   .cases G
  .cases hc
 .cases hc
theorem qr8 (m:aA P C ω w0 C0 hp w)(e:ar C ω w w0.heap.size env a.tmps){t:TypeId}{x y z}(ho:o.op=.mapUpdate t x y z\/o.op=.insert t x y z)(hc:cS P h md r dst (.mapUpdate t x y z)=En cM)(G:qe p xc h0 al env hp cM=En res):yr P C C0 w0 a d env o w res:=by
 simp only[cS]at hc;split at hc
 .rename_i kt el ht;split at hc
  .rename_i kd x' y' z' iP Y I h3;cases hc;simp only[qe,qn]at G;split at G
   .rename_i b kv v e1 e2 e3
    cases hk:zf h0 al b with
    |false=>simp[hk]at G
    |true=>
     simp only[hk,cond_true]at G;split at G
     .rename_i es hb;split at G
      .rename_i i u hf;split at G
       .rename_i h' bK;obtain rfl:=qx G;exact .inr (.inl (qr3 m e ho ht iP Y I h3 e1 e2 e3 hb (.inl ⟨i,u,hf,bK⟩)))
       .cases G
      .rename_i hf
       cases hl:Y9 es.length 1073741824 with
       |false=>simp[hl]at G
       |true=>
        simp only[hl,cond_true]at G;split at G
        .rename_i h' bK;obtain rfl:=qx G;exact .inr (.inl (qr3 m e ho ht iP Y I h3 e1 e2 e3 hb (.inr ⟨hf,bK⟩)))
        .cases G
      .cases G
     .cases G
   .cases G
  .cases hc
 .cases hc
end
section
variable {P:Program}{p:j8}{xc:XC}{C C0:aQ}{ω:Nat->Option Loc}{w w0:World}{hp:qf}{env:Env}{a:Act}{o:Oper}{d:Loc}{h:jx}{md:eN}{r h0:Nat}{dst:Option Nat}{al:ak Nat}{cM:cG}{res:bu}
theorem uJ (w:World){d}{t:TypeId}{x y b}{u:TypeDesc}(h:(∃e,u=.slice e/\y=.slice Ha 0 0/\∃q l c,x=.slice q l c/\b=q.isNone)\/(∃e,u=.pointer e/\y=.pointer Ha/\∃q,x=.pointer q/\b=q.isNone) \/
  (∃k e,u=.map k e/\y=.map Ha/\∃q,x=.map q/\b=q.isNone)\/(∃k e v,u=.func k e v/\y=.nilFunc/\((x=.nilFunc/\b=Hc)\/∃f i j,x=.func f i j/\b=Hb))) (ht:P.underlying t=En u):
  (Op.equalIn (d+1) t x y).run P w=.ok b w:=by
 rcases h with⟨e,rfl,rfl,q,l,c,rfl,rfl⟩|⟨e,rfl,rfl,q,rfl,rfl⟩|⟨k,e,rfl,rfl,q,rfl,rfl⟩|⟨k,e,v,rfl,rfl,⟨rfl,rfl⟩|⟨f,i,j,rfl,rfl⟩⟩
 .cases q<;>simp[Op.equalIn,run_underlying ht]
 .cases q<;>simp[Op.equalIn,run_underlying ht]
 .cases q<;>simp[Op.equalIn,run_underlying ht]
 .simp[Op.equalIn,run_underlying ht]
 .simp[Op.equalIn,run_underlying ht]
theorem uL (m:aA P C ω w0 C0 hp w)(e:ar C ω w w0.heap.size env a.tmps){op}{t u:TypeId}{x y neq b c}(ho:o.op=.binOp op t x y u)(hop:op=if neq then .neq else .eql)(hy:a.eval y=c)
  (bG:(∀k n,a.eval x≠.int k n)/\(∀s,a.eval x≠.string s)/\(∀k n,a.eval x≠.float k n)/\(∀k n m,a.eval x≠.complex k n m)) (dh:∀cs,a.eval x≠.agg cs) (HM:a.eval x≠.nilIface)
  (hq:(Op.equal t (a.eval x) c).run P w=.ok b w) {z} (hz:z=bif neq then !b else b):yr P C C0 w0 a d env o w ⟨.bool z,Hb,Ha,hp⟩:=by
 subst hz;exact jl m e (jit ho hop hy bG dh HM hq)
theorem Ns (m:aA P C ω w0 C0 hp w)(e:ar C ω w w0.heap.size env a.tmps){op}{t u:TypeId}{x y y' neq k c}(ho:o.op=.binOp op t x y u)(hop:op=if neq then .neq else .eql)(M:qq x=En y')(hy:y=.const c)
  (hk:(k=0/\(∃el,P.underlying t=En (.slice el))/\c=.slice Ha 0 0)\/(k=1/\(∃el,P.underlying t=En (.pointer el))/\c=.pointer Ha)\/(k=2/\(∃k v,P.underlying t=En (.map k v))/\c=.map Ha)\/(k=3/\(∃a b c,P.underlying t=En (.func a b c))/\c=.nilFunc))
  (G:qe p xc h0 al env hp (.fD k neq y')=En res):yr P C C0 w0 a d env o w res:=by
 have rz:a.eval y=c:=by subst hy;simp[Act.eval]
 rcases hk with⟨rfl,⟨el,ht⟩,rfl⟩|⟨rfl,⟨el,ht⟩,rfl⟩|⟨rfl,⟨k,el,ht⟩,rfl⟩|⟨rfl,⟨k,el,q,ht⟩,rfl⟩
 .simp only[qe,ql]at G
  split at G<;>first|(exfalso;omega)|skip
  .rename_i n sz xs _ hv;obtain rfl:=qx G;rcases(qt e.cw M hv).cQ with⟨rfl,rfl,Y⟩|⟨Y,r,q,cap,I,_⟩|⟨Y,_,ad,_,I⟩
   .exact uL m e ho hop rz (by simp[Y]) (by simp[Y]) (by simp[Y]) (b:=true) (by rw[Y];exact uJ w (d:=9999) (by simp) ht) (by cases neq<;>rfl)
   all_goals
    subst Y;exact uL m e ho hop rz (by simp[I]) (by simp[I]) (by simp[I]) (b:=false) (by rw[I];exact uJ w (d:=9999) (by simp) ht) (by cases neq<;>rfl)
  .rename_i b q n _ hv;obtain rfl:=qx G;have Q:=qt e.cw M hv;generalize I:a.eval x=ev at Q
   cases Q with
   |ms b o len r cap hb hl=>
    exact uL m e ho hop rz (by simp[I]) (by simp[I]) (by simp[I]) (b:=false) (by rw[I];exact uJ w (d:=9999) (by simp) ht) (by cases neq<;>rfl)
  .cases G
 .simp only[qe,ql]at G
  split at G<;>first|(exfalso;omega)|skip
  .rename_i _ hv;obtain rfl:=qx G;have Q:=qt e.cw M hv;generalize I:a.eval x=ev at Q;cases Q;exact uL m e ho hop rz (by simp[I]) (by simp[I]) (by simp[I]) (b:=true) (by rw[I];exact uJ w (d:=9999) (by simp) ht) (by cases neq<;>rfl)
  .rename_i _ hv;obtain rfl:=qx G;obtain⟨r,Q,I⟩:=(qt e.cw M hv).dr;exact uL m e ho hop rz (by simp[I]) (by simp[I]) (by simp[I]) (b:=false) (by rw[I];exact uJ w (d:=9999) (by simp) ht) (by cases neq<;>rfl)
  .rename_i _ hv;obtain rfl:=qx G;obtain⟨r,q,I,_⟩:=(qt e.cw M hv).eY;exact uL m e ho hop rz (by simp[I]) (by simp[I]) (by simp[I]) (b:=false) (by rw[I];exact uJ w (d:=9999) (by simp) ht) (by cases neq<;>rfl)
  .cases G
 .simp only[qe,ql]at G
  split at G<;>first|(exfalso;omega)|skip
  .rename_i _ hv;obtain rfl:=qx G;have Q:=qt e.cw M hv;generalize I:a.eval x=ev at Q;cases Q;exact uL m e ho hop rz (by simp[I]) (by simp[I]) (by simp[I]) (b:=true) (by rw[I];exact uJ w (d:=9999) (by simp) ht) (by cases neq<;>rfl)
  .rename_i _ hv;obtain rfl:=qx G;have Q:=qt e.cw M hv;generalize I:a.eval x=ev at Q;cases Q;exact uL m e ho hop rz (by simp[I]) (by simp[I]) (by simp[I]) (b:=false) (by rw[I];exact uJ w (d:=9999) (by simp) ht) (by cases neq<;>rfl)
  .cases G
 .simp only[qe,ql]at G
  split at G<;>first|(exfalso;omega)|skip
  .rename_i _ hv;obtain rfl:=qx G;have Q:=qt e.cw M hv;generalize I:a.eval x=ev at Q;cases Q;exact uL m e ho hop rz (by simp[I]) (by simp[I]) (by simp[I]) (b:=true) (by rw[I];exact uJ w (d:=9999) (by simp) ht) (by cases neq<;>rfl)
  .rename_i _ hv;obtain rfl:=qx G;have Q:=qt e.cw M hv;generalize I:a.eval x=ev at Q;cases Q;exact uL m e ho hop rz (by simp[I]) (by simp[I]) (by simp[I]) (b:=false) (by rw[I];exact uJ w (d:=9999) (by simp) ht) (by cases neq<;>rfl)
  .cases G
theorem TW (m:aA P C ω w0 C0 hp w)(e:ar C ω w w0.heap.size env a.tmps){op}{t u:TypeId}{x y x' y'}(ho:o.op=.binOp op t x y u)(Y:qq x=En x')(I:qq y=En y')(G:qe p xc h0 al env hp (.bin op x' y')=En res):yr P C C0 w0 a d env o w res:=by
 simp only[qe,ql]at G;split at G
 .rename_i u v e1 e2;obtain⟨z,hz,rfl⟩:=uH G;exact jl m e (jr2 e.cw ho Y I e1 e2 hz)
 .cases G
theorem q0g (m:aA P C ω w0 C0 hp w)(e:ar C ω w w0.heap.size env a.tmps){op}{t u:TypeId}{x y neq}(ho:o.op=.binOp op t x y u)(hop:op=if neq then .neq else .eql)(hc:Ft P op neq t x y=En cM)(G:qe p xc h0 al env hp cM=En res):yr P C C0 w0 a d env o w res:=by
 have eb:Ft P op neq t x y=En cM:=hc;unfold Ft at eb
 have eqs:∀ {ks:List Kd} {x' y':ju},y5 P t=En Hc->P.eqGuardType P.depth t=Hb->su P MY t=En ks->qq x=En x'->qq y=En y'->qe p xc h0 al env hp (.eqs ks neq x' y')=En res->yr P C C0 w0 a d env o w res:=by
  intro ks x' y' dh hg hk Y I G;simp only[qe,ql]at G;split at G
  .rename_i u v e1 e2
   cases hb:(I9 u.length ks.length&&I9 v.length ks.length)with
   |false=>simp[hb]at G
   |true=>
    simp only[hb,cond_true]at G;simp only[I6]at hb;split at G
    .rename_i b hq;obtain rfl:=qx G;exact jl m e (ju5 e.cw ho hop Y I e1 e2 hg hk dh (H2 hb.1) (H2 hb.2) hq)
    .cases G
  .cases G
 split at eb
 .split at eb
  .rename_i Y I;cases eb;exact TW m e ho Y I G
  .cases eb
 .split at eb
  .rename_i Y I;cases eb;exact TW m e ho Y I G
  .cases eb
 .rename_i ht;split at eb
  .rename_i Y I;cases eb;simp only[qe,ql]at G;split at G
   .rename_i u v e1 e2;obtain rfl:=qx G;exact jl m e (juc e.cw ho hop Y I e1 e2 ht)
   .cases G
  .cases eb
 .rename_i fs ht;split at eb
  .rename_i hg;split at eb
   .rename_i ks x' y' hk Y I;cases eb;exact eqs (by simp[y5,ht]) (by simpa using hg) hk Y I G
   .cases eb
  .cases eb
 .rename_i fs _ ht;split at eb
  .rename_i hg;split at eb
   .rename_i ks x' y' hk Y I;cases eb;exact eqs (by simp[y5,ht]) (by simpa using hg) hk Y I G
   .cases eb
  .cases eb
 .rename_i el ht;split at eb
  .obtain⟨x',M,rfl⟩:=E6.1 eb;exact Ns m e ho hop M rfl (.inl ⟨rfl,⟨el,ht⟩,rfl⟩) G
  .cases eb
 .rename_i el ht;split at eb
  .obtain⟨x',M,rfl⟩:=E6.1 eb;exact Ns m e ho hop M rfl (.inr (.inl ⟨rfl,⟨el,ht⟩,rfl⟩)) G
  .cases eb
 .rename_i el _ ht;split at eb
  .obtain⟨x',M,rfl⟩:=E6.1 eb;exact Ns m e ho hop M rfl (.inr (.inr (.inl ⟨rfl,⟨_,_,ht⟩,rfl⟩))) G
  .cases eb
 .rename_i el _ _ ht;split at eb
  .obtain⟨x',M,rfl⟩:=E6.1 eb;exact Ns m e ho hop M rfl (.inr (.inr (.inr ⟨rfl,⟨_,_,_,ht⟩,rfl⟩))) G
  .cases eb
 .cases eb
theorem jvh (m:aA P C ω w0 C0 hp w)(e:ar C ω w w0.heap.size env a.tmps){op}{t u:TypeId}{x y}(ho:o.op=.binOp op t x y u)(hc:cS P h md r dst (.binOp op t x y u)=En cM)(G:qe p xc h0 al env hp cM=En res):yr P C C0 w0 a d env o w res:=by
 simp only[cS]at hc;unfold jpg at hc;split at hc
 .exact q0g (neq:=false) m e ho rfl hc G
 .exact q0g (neq:=true) m e ho rfl hc G
 .split at hc
  .rename_i Y I;cases hc;exact TW m e ho Y I G
  .cases hc
end
end Go.Abs
