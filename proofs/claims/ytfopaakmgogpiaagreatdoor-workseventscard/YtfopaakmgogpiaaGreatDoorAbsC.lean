/- Operations that make a new slice. -/
import Derived.Test.YtfopaakmgogpiaaGreatDoorAbsB
set_option linter.unusedVariables false
set_option linter.unusedSimpArgs false
namespace Go.Abs
section
variable {P:Program}{C C0:Ctx}{ω:Nat→Option Loc}{w w0:World}{hp:j8}{env:Env}{a:Act}{o:Oper}{tmps:Array Value}{d:Loc}
theorem EnvRel.strip {B:Nat}(e:EnvRel C ω w B env tmps)(s:Option Nat):EnvRel C ω w B (k9 env s) tmps:=by
 cases s with
 |none=>exact e
 |some s=>
  simp only[k9]
  split
  ·rename_i v o hl
   intro t x hx
   simp only[ye]at hx
   cases hb:Nat.beq s t with
   |false=>rw[hb]at hx;simp at hx;exact e t x hx
   |true=>
    rw[hb]at hx
    simp at hx
    subst hx
    obtain rfl:=Nat.eq_of_beq_eq_true hb
    obtain⟨u,h1,h2,_⟩:=e s _ hl
    exact⟨u,h1,h2,by simp⟩
  ·exact e
theorem q1v (m:MInv P C ω w0 C0 hp w)(e:EnvRel C ω w w0.heap.size env tmps){x:qa}{v:Value}(h:Rep C x v):kg P C0 w0 C tmps d env ⟨x,false,none,hp⟩ v w:=
 ⟨C,ω,Ctx.le_refl C,m,e,h,by simp⟩
theorem qtj (m:MInv P C ω w0 C0 hp w)(e:EnvRel C ω w w0.heap.size env tmps)(cells:Array Value)(t:TypeId)(xs:List qa)(sz cap:Nat)(vs:List Value)(hr:RepL C (xs.flatMap qa.flat) vs)
  (hv:∀(j:Nat) v,vs[j]?=some v→cells[j]?=some v) (h1:∀v∈vs,v.oneCell'=true) (hs:∀x∈xs,x.flat.length=sz) (hcap:xs.length≤cap) (hfit:cap*sz≤cells.size) (s:Option Nat):
  kg P C0 w0 C tmps d env ⟨.list false sz xs,true,s,hp⟩ (.slice (some ⟨w.heap.size,0,none⟩) xs.length cap) (w.alloc (.cells cells t)):=by
 have hn:∀o,C.K w.heap.size o=none:=m.K_new _ (Nat.le_refl _)
 have hx:Ext w (w.alloc (.cells cells t)):=Ext.alloc w _ (fun c t fr h=>by cases h;rfl)
 have m1:=(m.newRow cells t vs hv h1)
 have hnω:∀ℓ x v,OwnV C ω w w0.heap.size ℓ x v→OwnV (C.put w.heap.size 0 vs) (own1 ω w.heap.size d) (w.alloc (.cells cells t)) w0.heap.size ℓ x v:=fun ℓ x v ho=>((ho.fresh (Nat.le_refl _)).put vs (.inl (Nat.le_refl _))).ext hx
 have hle:=Ctx.put_le (C:=C) (off:=0) vs (fun o _=>hn o)
 have hcells:=Ctx.put_cells (C:=C) (off:=0) (fun o _=>hn o) hr
 have hl:vs.length=xs.length*sz:=by rw[hr.length,qai xs hs]
 refine⟨C.put w.heap.size 0 vs,own1 ω w.heap.size d,hle,?_,?_,?_,?_⟩
 ·exact { m1 with box:=fun b x r hx' hb=>((m.box b x r hx' hb).mono hle fun j y v ho=>(ho.fresh (Nat.le_refl _)).put vs (.inl (Nat.le_refl _))).ext hx }
 ·refine EnvRel.strip ?_ s
  exact fun t x hx=>let ⟨v,h1,h2,h3⟩:=e t x hx; ⟨v,h1,qp.mono hle h2,fun h=>hnω _ _ _ (h3 h)⟩
 ·exact .list _ _ _ _ _ hcap (RepRow.of_cells hcells hs)
 ·intro _
  refine⟨by simp[own1],.inl m.size,?_,rfl,rfl,⟨cells,t,by rw[qdn,if_pos rfl],by simpa using hfit,Strict.sized hs⟩,?_⟩
  ·intro b hb
   have:=(m.lt b _ hb).1
   simp at this
  ·intro o ho
   simp only[Ctx.put]
   rw[if_neg (by simp at ho;omega)]
   exact hn o
theorem qfe {zs:List Value}{sz:Nat}(hz:zs.length=sz)(hs:0<sz):∀(n:Nat),(List.range (n*sz)).map (fun i=>zs.toArray[i % zs.toArray.size]!)=(List.replicate n zs).flatten
 |0=>by simp
 |n+1=>by
  rw[Nat.succ_mul,List.range_add,List.map_append,qfe hz hs n,List.replicate_succ',List.flatten_append]
  congr 1
  simp only[List.map_map,List.flatten_cons,List.flatten_nil,List.append_nil]
  z8 List.ext_getElem?
  intro j
  rw[List.getElem?_map]
  by_cases hj:j<sz
  ·rw[List.getElem?_range hj]
   simp only[Option.map_some,Function.comp,List.size_toArray,hz]
   rw[Nat.mul_add_mod_self_right,Nat.mod_eq_of_lt hj]
   rw[List.getElem?_eq_getElem (by omega),getElem!_pos _ _ (by simpa[hz]using hj)]
   simp
  ·rw[List.getElem?_eq_none (by simpa using hj),List.getElem?_eq_none (by omega)]
   rfl
theorem RepL.replicate {zs:List qa}{vs:List Value}(h:RepL C zs vs):∀n:Nat,RepL C (List.replicate n zs).flatten (List.replicate n vs).flatten
 |0=>.nil
 |n+1=>by
  rw[List.replicate_succ,List.replicate_succ,List.flatten_cons,List.flatten_cons]
  exact RepL.append h (RepL.replicate h n)
def qdy (sz:Nat)(zero:List qa):qa:=bif Nat.beq sz 1 then zero.headD .undef else .agg zero
theorem qjm {sz:Nat}{zero:List qa}(hz:zero.length=sz)(hs:∀z∈zero,z.isAgg=false):(qdy sz zero).flat=zero:=by
 unfold qdy
 cases hb:Nat.beq sz 1 with
 |false=>rfl
 |true=>
  obtain rfl:=Nat.eq_of_beq_eq_true hb
  obtain⟨z,rfl⟩:=List.length_eq_one_iff.1 hz
  exact qcz (hs z (by simp))
theorem qmu {sz:Nat}{zero:List qa}(hz:zero.length=sz)(hs:∀z∈zero,z.isAgg=false)(n:Nat):(List.replicate n (qdy sz zero)).flatMap qa.flat=(List.replicate n zero).flatten:=by
 induction n with
 |zero=>rfl
 |succ n ih=>rw[List.replicate_succ,List.flatMap_cons,qjm hz hs,ih,List.replicate_succ,List.flatten_cons]
theorem q0y {v:Value}{x:qa}(h:qof v=some x):ze x=true∧v.oneCell'=true:=by
 unfold qof at h
 split at h<;>first|cases h|skip
 all_goals exact⟨rfl,rfl⟩
theorem qn9:∀ {vs:List Value} {xs:List qa},qf6 vs=some xs→(∀x∈xs,ze x=true)∧∀v∈vs,v.oneCell'=true
 | [],xs,h=>by simp[qf6]at h;subst h;simp
 |v::vs,xs,h=>by
  simp only[qf6]at h
  split at h
  ·rename_i x hx
   split at h
   ·rename_i ys hys
    cases h
    obtain⟨h1,h2⟩:=q0y hx
    obtain⟨h3,h4⟩:=qn9 hys
    exact⟨by simpa using⟨h1,h3⟩,by simpa using⟨h2,h4⟩⟩
   ·cases h
  ·cases h
theorem qmt {x:qa}(h:ze x=true):x.isAgg=false:=by cases x<;>simp[ze,qa.isAgg]at *
theorem qbq {t:TypeId}{z:List qa}(h:qan P t=some z):(∀x∈z,ze x=true)∧∃v,(∀w,(zeroValue t).run P w=.ok v w)∧RepL C z v.cells.toList∧∀u∈v.cells.toList,u.oneCell'=true:=by
 unfold qan at h
 split at h
 ·rename_i i hi
  split at h
  ·rename_i v hv
   obtain⟨h1,h2⟩:=qn9 h
   exact⟨h1,v,fun w=>by simp[zeroValue,typeInfo,hi,hv],qir C h,h2⟩
  ·cases h
 ·cases h
theorem qmn {x:qa}{v:Value}(h:Rep C x v)(hs:ze x=true):v.oneCell'=true:=by
 cases h<;>first|rfl|(simp[ze]at hs)
theorem qc8 {xs:List qa}:∀ {vs:List Value},RepL C xs vs→(∀x∈xs,ze x=true)→∀v∈vs,v.oneCell'=true:=by
 induction xs with
 |nil=>intro vs h _ v hv;cases h;cases hv
 |cons x xs ih=>
  intro vs h hs v hv
  cases h with
  |cons _ _ u us hx h=>
   rcases List.mem_cons.1 hv with rfl|hv
   ·exact qmn hx (hs x (by simp))
   ·exact ih h (fun y hy=>hs y (by simp[hy])) v hv
theorem qz9:∀ (qs:List (Nat×List qa)) (xs ys:List qa),qcr xs qs=some ys→(∀x∈xs,ze x=true)→(∀q∈qs,∀x∈q.2,ze x=true)→∀y∈ys,ze y=true
 | [],xs,ys,h,hx,_=>by simp[qcr]at h;subst h;exact hx
 |(off,vs)::qs,xs,ys,h,hx,hq=>by
  simp only[qcr]at h
  cases hb:Nat.ble (off+vs.length) xs.length with
  |false=>simp[hb]at h
  |true=>
   simp only[hb,cT]at h
   refine qz9 qs _ ys h ?_ (fun q h=>hq q (by simp[h]))
   intro x h
   simp only[List.mem_append]at h
   rcases h with(h|h)|h
   ·exact hx x (List.mem_of_mem_take h)
   ·exact hq (off,vs) (by simp) x h
   ·exact hx x (List.mem_of_mem_drop h)
theorem qld {sz:Nat}:∀(ps:List (Nat×qh)) (qs:List (Nat×qa)),qac env sz ps=some qs→∀q∈qs,∀x∈q.2.flat,ze x=true
 | [],qs,h=>by simp[qac]at h;subst h;simp
 |(i,x)::ps,qs,h=>by
  simp only[qac]at h
  split at h
  ·rename_i v hv1
   cases hb:(Nat.beq v.flat.length sz&&v.flat.all ze)with
   |false=>simp[hb]at h
   |true=>
    simp only[hb,cT]at h
    simp only[Bool.and_eq_true,List.all_eq_true]at hb
    split at h
    ·rename_i r hr
     cases h
     intro q hq
     rcases List.mem_cons.1 hq with rfl|hq
     ·exact hb.2
     ·exact qld ps r hr q hq
    ·cases h
  ·cases h
theorem qn8 (e:EnvRel C ω w w0.heap.size env a.tmps){t el:TypeId}{ps:Array (Nat×Operand)}{len sz:Nat}{z:List qa}{ps':List (Nat×qh)}{qs:List (Nat×qa)}{xs:List qa}
  (ho:o.op=.buildSlice t len ps) (ht:P.underlying t=some (.slice el)) (hn:yh P el=some sz) (hz:qan P el=some z) (hlen:sz*len≤65536) (h0:0<sz) (hzl:z.length=sz)
  (hps:qi3 ps.toList=some ps') (hq:qac env sz ps'=some qs) (hx:qdp (List.replicate len (qdy sz z)) qs=some xs):
  ∃ds,(execOp a.eval o).run P w=.ok (.value (.slice (some ⟨w.heap.size,0,none⟩) len len)) (w.alloc (.cells ds el))∧RepL C (xs.flatMap qa.flat) ds.toList∧(∀v∈ds.toList,v.oneCell'=true)∧(∀x∈xs,x.flat.length=sz)∧xs.length=len∧len*sz≤ds.size:=by
 obtain⟨hzs,zv,hzr,hzrep,hz1⟩:=qbq (C:=C) hz
 have hna:∀x∈z,x.isAgg=false:=fun x h=>qmt (hzs x h)
 have hzsz:zv.cells.toList.length=sz:=by rw[hzrep.length,hzl]
 have hinit:((Array.range (len*sz)).map (fun i=>zv.cells[i % zv.cells.size]!)).toList=(List.replicate len zv.cells.toList).flatten:=by
  have:=qfe hzsz h0 len
  simpa using this
 obtain⟨hpr,hqs⟩:=qpv e.rep ps.toList ps' qs hps hq
 obtain⟨hf,hxs,hxl⟩:=qwy (sz:=sz) qs _ xs hx (by
  intro x h
  obtain⟨_,rfl⟩:=List.mem_replicate.1 h
  rw[qjm hzl hna,hzl]) hqs
 rw[qmu hzl hna]at hf
 obtain⟨ds,hd,hdr⟩:=qlx _ _ _ _ ((Array.range (len*sz)).map (fun i=>zv.cells[i % zv.cells.size]!)) (by rw[hinit];exact hzrep.replicate len) hf hpr
 have hxlen:xs.length=len:=by simpa using hxl
 have hsc:∀y∈xs.flatMap qa.flat,ze y=true:=qz9 _ _ _ hf (by
  intro x h
  rw[List.mem_flatten]at h
  obtain⟨l,h1,h2⟩:=h
  obtain⟨_,rfl⟩:=List.mem_replicate.1 h1
  exact hzs x h2) (by
  intro q hq1 x hx1
  obtain⟨p,hp1,rfl⟩:=List.mem_map.1 hq1
  exact qld ps' qs hq p hp1 x hx1)
 have hdl:ds.toList.length=len*sz:=by rw[hdr.length,qai xs hxs,hxlen]
 refine⟨ds,?_,hdr,qc8 hdr hsc,hxs,hxlen,by simp at hdl;omega⟩
 ·have hpa:(ps.map fun(x:Nat×Operand)=>(x.1,a.eval x.2)).toList=ps.toList.map fun x=>(x.1,a.eval x.2):=by simp
  have hle:¬(16777216<len*sz):=by rw[Nat.mul_comm];omega
  by_cases hl0:len=0
  ·subst hl0
   have hr:Array.range 0=#[]:=rfl
   rw[Nat.zero_mul,hr,Array.map_empty]at hd
   simp only[execOp,ho,Instr.buildSlice,Sem.run_bind,run_underlying ht,Result.andThen_ok,qah hn,hpa]
   simp[hr,hd,newRow]
  ·have hne:¬(len*sz=0):=by
    intro h
    rcases Nat.mul_eq_zero.1 h with h|h<;>omega
   simp only[execOp,ho,Instr.buildSlice,Sem.run_bind,run_underlying ht,Result.andThen_ok,qah hn,hpa]
   simp[hle,hne,hzr,hd,newRow]
theorem qy1 (m:MInv P C ω w0 C0 hp w)(e:EnvRel C ω w w0.heap.size env a.tmps){t el:TypeId}{ps:Array (Nat×Operand)}{len sz:Nat}{z:List qa}{ps':List (Nat×qh)}{qs:List (Nat×qa)}{xs:List qa}
  (ho:o.op=.buildSlice t len ps) (ht:P.underlying t=some (.slice el)) (hn:yh P el=some sz) (hz:qan P el=some z) (hlen:sz*len≤65536) (h0:0<sz) (hzl:z.length=sz)
  (hps:qi3 ps.toList=some ps') (hq:qac env sz ps'=some qs) (hx:qdp (List.replicate len (qdy sz z)) qs=some xs):
  ∃v w',(execOp a.eval o).run P w=.ok (.value v) w'∧kg P C0 w0 C a.tmps d env ⟨.list false sz xs,true,none,hp⟩ v w':=by
 obtain⟨ds,hrun,hdr,h1,hxs,hxlen,hfit⟩:=qn8 (C:=C) (ω:=ω) (w:=w) (w0:=w0) e ho ht hn hz hlen h0 hzl hps hq hx
 refine⟨_,_,hrun,?_⟩
 have hcore:=qtj (d:=d) (tmps:=a.tmps) m e ds el xs sz len ds.toList hdr (by intro j v h;simpa using h) h1 hxs (by omega) hfit none
 rw[hxlen]at hcore
 exact hcore
theorem q5v (m:MInv P C ω w0 C0 hp w)(e:EnvRel C ω w w0.heap.size env a.tmps){t el:TypeId}{x y:Operand}{x' y':qh}{n sz b:Nat}{z:List qa}
  (ho:o.op=.makeSlice t x y) (ht:P.underlying t=some (.slice el)) (hn:yh P el=some sz) (hb:qds P el=some b) (hz:qan P el=some z) (h0:0<sz) (hzl:z.length=sz)
  (h1:zq x=some x') (h2:zq y=some y') (e1:zc env x'=some (.int .i64 (n:Int))) (e2:zc env y'=some (.int .i64 (n:Int))) (hle:n≤1073741824) (hbl:b≤4096):
  ∃v w',(execOp a.eval o).run P w=.ok (.value v) w'∧kg P C0 w0 C a.tmps d env ⟨.list false sz (List.replicate n (qdy sz z)),true,none,hp⟩ v w':=by
 obtain⟨hzs,zv,hzr,hzrep,hz1⟩:=qbq (C:=C) hz
 have hna:∀x∈z,x.isAgg=false:=fun x h=>qmt (hzs x h)
 have hzsz:zv.cells.toList.length=sz:=by rw[hzrep.length,hzl]
 have hinit:((Array.range (n*sz)).map (fun i=>zv.cells[i % zv.cells.size]!)).toList=(List.replicate n zv.cells.toList).flatten:=by
  have:=qfe hzsz h0 n
  simpa using this
 have r1:=(zt e.rep h1 e1).int_inv
 have r2:=(zt e.rep h2 e2).int_inv
 have hxs:∀x∈List.replicate n (qdy sz z),x.flat.length=sz:=by
  intro x h
  obtain⟨_,rfl⟩:=List.mem_replicate.1 h
  rw[qjm hzl hna,hzl]
 have hrep:RepL C ((List.replicate n (qdy sz z)).flatMap qa.flat) ((Array.range (n*sz)).map (fun i=>zv.cells[i % zv.cells.size]!)).toList:=by
  rw[qmu hzl hna,hinit];exact hzrep.replicate n
 obtain⟨i,hi,hib⟩:∃i,P.info? el=some i∧i.bytes=b:=by
  unfold qds at hb
  cases hi:P.info? el with
  |none=>simp[hi]at hb
  |some i=>exact⟨i,rfl,by simpa[hi]using hb⟩
 have hsi:i.size=sz:=by
  unfold yh at hn
  rw[hi]at hn
  simpa using hn
 have hwrap:IntKind.i64.wrap (n:Int)=n:=by
  rw[←qgy];unfold j6
  have:qfi .i64 (n:Int)=true:=by simp[qfi];exact Nat.le_trans hle (by decide)
  rw[this];rfl
 have hbn:b*n≤281474976710656:=Nat.le_trans (Nat.mul_le_mul hbl hle) (by decide)
 have hcore:=qtj (d:=d) (tmps:=a.tmps) m e ((Array.range (n*sz)).map (fun i=>zv.cells[i % zv.cells.size]!)) el (List.replicate n (qdy sz z)) sz n _ hrep (by intro j v h;rw[Array.getElem?_toList]at h;exact h) (by
   rw[hinit]
   intro v hv
   rw[List.mem_flatten]at hv
   obtain⟨l,q1,q2⟩:=hv
   obtain⟨_,rfl⟩:=List.mem_replicate.1 q1
   exact hz1 v q2) hxs (by simp) (by simp) none
 rw[List.length_replicate]at hcore
 refine⟨_,_,?_,hcore⟩
 have c1:¬((b:Int)*(n:Int) > 2^48):=by
  have h1:((b*n:Nat):Int)≤281474976710656:=Int.ofNat_le.2 hbn
  rw[Int.natCast_mul]at h1
  have h2:(2:Int)^48=281474976710656:=by decide
  rw[h2];omega
 have c2:¬((n:Int)<0):=by omega
 have hr:Array.range 0=#[]:=rfl
 simp only[execOp,ho,Instr.makeSlice,Sem.run_bind,run_underlying ht,r1,r2,asInt,asIntOf,Sem.run_pure,Result.andThen_ok,typeInfo,run_program,hi,hib,hwrap,c2,c1,decide_false,Bool.or_false,Bool.false_eq_true,if_false,Int.lt_irrefl,gt_iff_lt,run_askRoom,Int.toNat_natCast,qah hn,newRow]
 by_cases hn0:n=0
 ·subst hn0
  simp[hr]
 ·have hne:¬(n*sz=0):=by
   intro h
   rcases Nat.mul_eq_zero.1 h with h|h<;>omega
  simp[hne,hzr]
end
structure jm (w w':World)(r:Nat)(cs:Array Value):Prop where
 at_:∃t,w'.heap[r]?=some (.cells cs t (0,0))
 size:w'.heap.size=w.heap.size
 other:∀k,k≠r→w'.heap[k]?=w.heap[k]?
 os:w'.os=w.os
 output:w'.output=w.output
theorem qe4 {w:World}{r:Nat}{old:Array Value}{t:TypeId}(h:w.heap[r]?=some (.cells old t (0,0)))(cs:Array Value):jm w (w.setRow r cs) r cs:=
 ⟨⟨t,setRow_heap w r old cs t (0,0) h⟩,setRow_size w r cs,fun k hk=>setRow_other w r k cs hk,rfl,rfl⟩
section
variable {P:Program}{C C0:Ctx}{ω:Nat→Option Loc}{w w' w0:World}{hp:j8}{env:Env}{a:Act}{o:Oper}{tmps:Array Value}{d:Loc}
theorem OwnV.upd {B r:Nat}{cs:Array Value}{ℓ:Loc}{x:qa}{v:Value}(hu:jm w w' r cs)(hr:ω r≠some ℓ)(ho:OwnV C ω w B ℓ x v):OwnV C ω w' B ℓ x v:=by
 unfold OwnV at *
 split at ho
 ·rename_i a len cap
  obtain⟨h1,h2,h3,h4,h8,⟨cells,elem,h5,h6⟩,h7⟩:=ho
  refine⟨h1,h2,h3,h4,h8,⟨cells,elem,?_,h6⟩,h7⟩
  rw[hu.other _ (fun h=>hr (h▸h1))]
  exact h5
 ·rename_i a
  obtain⟨h1,h2,h3,h4,h8,⟨cells,elem,h5,h6⟩,h7⟩:=ho
  refine⟨h1,h2,h3,h4,h8,⟨cells,elem,?_,h6⟩,h7⟩
  rw[hu.other _ (fun h=>hr (h▸h1))]
  exact h5
 ·trivial
theorem BoxRel.upd {B b r r':Nat}{cs:Array Value}{x:qn}(hu:jm w w' r cs)(hne:r'≠r)(hr:∀j,ω r≠some (.cell b j))(hb:BoxRel P C ω w B b r' x):BoxRel P C ω w' B b r' x:=by
 have hg:=hu.other r' hne
 cases x with
 |hole=>exact hb
 |cells cs'=>
  obtain⟨vs,elem,h1,h2,h3⟩:=hb
  exact⟨vs,elem,by rw[hg];exact h1,h2,fun j c hc=>let ⟨v,a,q,b,d⟩:=h3 j c hc; ⟨v,a,q,b,fun e=>(d e).upd hu (hr j)⟩⟩
 |map es=>obtain⟨ents,clock,h1,h2⟩:=hb;exact⟨ents,clock,by rw[hg];exact h1,h2⟩
 |iter s pos=>show w'.heap[r']?=_;rw[hg];exact hb
 |loop l=>obtain⟨lp,h1,h2⟩:=hb;exact⟨lp,by rw[hg];exact h1,h2⟩
 |bld t e l=>obtain⟨p,v,h1,h2,h3,h4⟩:=hb;exact⟨p,v,by rw[hg];exact h1,h2,h3,h4.upd hu (hr 1)⟩
 |dead=>obtain⟨cs,t,h1⟩:=hb;exact⟨cs,t,by rw[hg];exact h1⟩
 |vec sz ver xs=>exact VecRel.imp (fun _ _ _ h=>h) (fun _ h=>h) (fun _ h _=>h) hg (fun q n cap k=>⟨hu.other q (fun hq=>hr 0 (hq▸k.1)),k.upd hu (hr 0)⟩) hb
theorem qxi (m:MInv P C ω w0 C0 hp w)(e:EnvRel C ω w w0.heap.size env tmps){r q:Nat}{cells:Array Value}{t:TypeId}{news:List Value}{s:Nat}(hω:ω r=some (.slot s))(hB:w0.heap.size≤r∨C.W r)(hβ:∀b,C.β b≠some r)
  (hg:w.heap[r]?=some (.cells cells t (0,0))) (hfit:q+news.length≤cells.size) (hK:∀o,q≤o→C.K r o=none) (h1:∀v∈news,v.oneCell'=true):
  MInv P (C.put r q news) (own1 ω r d) w0 C0 hp (w.setRow r (cells.toList.take q++news++cells.toList.drop (q+news.length)).toArray) ∧
  EnvRel (C.put r q news) (own1 ω r d) (w.setRow r (cells.toList.take q++news++cells.toList.drop (q+news.length)).toArray) w0.heap.size (k9 env (some s)) tmps∧C.le (C.put r q news):=by
 have hu:=qe4 hg (cells.toList.take q++news++cells.toList.drop (q+news.length)).toArray
 generalize hw':w.setRow r (cells.toList.take q++news++cells.toList.drop (q+news.length)).toArray=w' at hu
 have hle:=Ctx.put_le (C:=C) (off:=q) news hK
 have hown:∀ℓ x v,ℓ≠.slot s→OwnV C ω w w0.heap.size ℓ x v→OwnV (C.put r q news) (own1 ω r d) w' w0.heap.size ℓ x v:=by
  intro ℓ x v hℓ ho
  have hne:ω r≠some ℓ:=by rw[hω];intro h;exact hℓ (Option.some.inj h).symm
  have h2:OwnV (C.put r q news) ω w' w0.heap.size ℓ x v:=(ho.put news (.inr hne)).upd hu hne
  exact h2.other (.inl hne)
 refine⟨?_,?_,hle⟩
 ·have hwsz:=hu.size
  refine { base:=m.base,know:=?_,kone:=?_,apart:=?_,inj:=m.inj,lt:=?_,size:=?_,frame:=?_,dfr:=?_,os:=hu.os.trans m.os,output:=hu.output.trans m.output,fresh:=m.fresh,grown:=Ctx.le_trans m.grown hle,old:=?_,box:=?_,tlt:=fun q hq=>by rw[hu.size];exact m.tlt q hq }
  ·intro b p v hk
   simp only[Ctx.put]at hk
   split at hk
   ·rename_i hc
    obtain⟨rfl,h2,h3⟩:=hc
    obtain⟨t',ht'⟩:=hu.at_
    simp only[World.cell?,ht']
    rw[List.getElem?_toArray,List.append_assoc,List.getElem?_append_right (by simp;omega),List.getElem?_append_left (by simp;omega)]
    have:(List.take q cells.toList).length=q:=by simp;omega
    rw[this]
    simpa using hk
   ·by_cases hb:b=r
    ·subst hb
     have hlt:p<q:=by
      rcases Nat.lt_or_ge p q with h|h
      ·exact h
      ·rw[hK p h]at hk;cases hk
     have hc:=m.know _ _ _ hk
     obtain⟨t',ht'⟩:=hu.at_
     simp only[World.cell?,hg]at hc
     simp only[World.cell?,ht']
     simp only[Option.isSome_none,Bool.false_eq_true,if_false]at hc ⊢
     rw[List.getElem?_toArray,List.append_assoc,List.getElem?_append_left (by simp;omega),List.getElem?_take_of_lt hlt,Array.getElem?_toList]
     exact hc
    ·have hc:=m.know _ _ _ hk
     simp only[World.cell?]at hc ⊢
     rw[hu.other b hb]
     exact hc
  ·intro b p v hk
   simp only[Ctx.put]at hk
   split at hk
   ·exact h1 v (List.mem_of_getElem? hk)
   ·exact m.kone b p v hk
  ·intro b p o hb
   simp only[Ctx.put]
   rw[if_neg]
   ·exact m.apart b p o hb
   ·rintro ⟨rfl,_⟩;exact hβ b hb
  ·intro b p hb
   rw[hwsz];exact m.lt b p hb
  ·rw[hwsz];exact m.size
  ·intro k hk hn hw
   have hkr:k≠r:=fun h=>by
    subst h
    rcases hB with h|h
    ·omega
    ·rw[m.grown.w]at h;exact hw h
   rw[hu.other k hkr];exact m.frame k hk hn hw
  ·intro k hk
   have hkr:k≠r:=fun h=>by
    subst h
    have:=m.dfr k hk
    rw[hg]at this;cases this
   rw[hu.other k hkr];exact m.dfr k hk
  ·intro k o hk hw
   have hkr:k≠r:=fun h=>by
    subst h
    rcases hB with h|h
    ·omega
    ·rw[m.grown.w]at h;exact hw h
   simp only[Ctx.put]
   rw[if_neg (by rintro ⟨h,_⟩;exact hkr h)]
   exact m.old k o hk hw
  ·intro b x p hx hb
   have hne:p≠r:=fun h=>hβ b (h▸hb)
   have hb0:=m.box b x p hx hb
   have hb1:BoxRel P C ω w' w0.heap.size b p x:=hb0.upd hu hne (fun j=>by rw[hω];simp)
   refine hb1.mono hle fun j y v ho=>?_
   have hne':ω r≠some (.cell b j):=by rw[hω];simp
   exact(ho.put news (.inr hne')).other (.inl hne')
 ·intro t x hx
  have hlk:∃v o,ye s env=some (v,o)∨ye s env=none:=by
   cases h:ye s env with
   |none=>exact⟨.undef,false,.inr rfl⟩
   |some x=>exact⟨x.1,x.2,.inl rfl⟩
  by_cases hts:t=s
  ·subst hts
   simp only[k9]at hx
   cases hl:ye t env with
   |none=>rw[hl]at hx;simp only[hl]at hx;cases hx
   |some y=>
    rw[hl]at hx
    simp only[ye,Nat.beq_refl,cT]at hx
    cases hx
    obtain⟨v,h2,h3,_⟩:=e t y hl
    exact⟨v,h2,qp.mono hle h3,by simp⟩
  ·have hx':ye t env=some x:=by
    simp only[k9]at hx
    cases hl:ye s env with
    |none=>rw[hl]at hx;exact hx
    |some y=>
     rw[hl]at hx
     simp only[ye]at hx
     have:Nat.beq s t=false:=by
      cases hb:Nat.beq s t with
      |false=>rfl
      |true=>exact absurd (Nat.eq_of_beq_eq_true hb).symm hts
     rw[this]at hx
     exact hx
   obtain⟨v,h2,h3,h4⟩:=e t x hx'
   exact⟨v,h2,qp.mono hle h3,fun h=>hown _ _ _ (by simp[hts]) (h4 h)⟩
theorem qfc {t tx ty e:TypeId}{i:TypeInfo}(ht:P.underlying t=some (.slice e))(hi:P.info? e=some i)(r off sLen sCap:Nat)(x:Value)(n:Nat)(news:List Value)(hs:Src P i.size tx x n news w)(hroom:sLen+n≤sCap)
  {cells:Array Value} {te:TypeId} (hg:w.heap[r]?=some (.cells cells te (0,0))) (hfit:off+sLen*i.size+news.length≤cells.size):
  (Builtin.append_ #[t,tx] ty #[.slice (some ⟨r,off,none⟩) sLen sCap,x]).run P w =
   .ok (.slice (some ⟨r,off,none⟩) (sLen+n) sCap) (w.setRow r (cells.toList.take (off+sLen*i.size)++news++cells.toList.drop (off+sLen*i.size+news.length)).toArray):=by
 have hst:=run_storeCells_at (P:=P) r (off+sLen*i.size) te news 0 cells w hg (by simpa using hfit) hs.one
 simp only[Nat.add_zero]at hst
 rcases hs.kind with⟨e',hk⟩|hk<;>simp[Builtin.append_,run_underlying ht,run_underlying hk,sizeOf,typeInfo,hi,hs.len,hroom,hs.cells,Addr.add_lit,hst]
theorem ql9 {t tx ty e:TypeId}{i:TypeInfo}(ht:P.underlying t=some (.slice e))(hi:P.info? e=some i)(x:Value)(hs:Src P i.size tx x 0 [] w):
  (Builtin.append_ #[t,tx] ty #[.slice none 0 0,x]).run P w=.ok (.slice none 0 0) w:=by
 rcases hs.kind with⟨e',hk⟩|hk<;>simp[Builtin.append_,run_underlying ht,run_underlying hk,sizeOf,typeInfo,hi,hs.len,hs.cells]
theorem qvt (m:MInv P C ω w0 C0 hp w){u:TypeId}{ut:TypeDesc}{sz:Nat}{vy:qa}{ys:List qa}{v:Value}(hu:P.underlying u=some ut)(hut:qey ut=true)(h:kl sz vy=some ys)(hr:Rep C vy v):
  ∃news,Src P sz u v ys.length news w∧RepL C (ys.flatMap qa.flat) news∧(∀y∈ys,y.flat.length=sz)∧∀x∈news,x.oneCell'=true:=by
 have hk:(∃e',P.underlying u=some (.slice e'))∨P.underlying u=some .string:=by
  cases ut<;>simp[qey]at hut
  ·exact .inr hu
  ·exact .inl ⟨_,hu⟩
 cases vy with
 |list n sy ys'=>
  simp only[kl]at h
  cases hb:(Nat.beq sz sy||ys'.isEmpty)with
  |false=>simp[hb]at h
  |true=>
   simp only[hb,cT,Option.some.injEq]at h
   subst h
   rcases hr.list_inv with⟨rfl,rfl,rfl⟩|⟨rfl,r,q,cap,rfl,_,hrow⟩|⟨rfl,rfl,ad,_,rfl⟩
   ·exact⟨[],⟨hk,fun _=>rfl,run_firstCells_none w sz 0 0 0,run_firstCells_none w.drew sz 0 0 0,by simp,by simp⟩,.nil,by simp,by simp⟩
   ·obtain⟨news,h1,h2⟩:=RepC.vals hrow.cells
    have h3:∀x∈news,x.oneCell'=true:=fun x hx=>by
     obtain⟨j,hj⟩:=List.getElem?_of_mem hx
     exact m.kone _ _ _ (h2 j x hj)
    have hsz:∀y∈ys',y.flat.length=sz:=by
     intro y hy
     rcases Bool.or_eq_true _ _▸hb with hb|hb
     ·rw[Nat.eq_of_beq_eq_true hb];exact hrow.sized y hy
     ·rw[List.isEmpty_iff.1 hb]at hy;cases hy
    have hl:news.length=ys'.length*sz:=by rw[h1.length,qai ys' hsz]
    have hc:∀j u,news[j]?=some u→w.cell? ((⟨r,q,none⟩:Addr).add j)=some u:=fun j u hj=>by rw[add_lit];exact m.know _ _ _ (h2 j u hj)
    refine⟨news,⟨hk,fun _=>rfl,run_firstCells_some w sz _ _ _ _ news hl hc,run_firstCells_some w.drew sz _ _ _ _ news hl (by simpa using hc),hl,h3⟩,h1,hsz,h3⟩
   ·exact⟨[],⟨hk,fun _=>rfl,run_firstCells_some w sz _ _ _ _ [] (by simp) (by simp),run_firstCells_some w.drew sz _ _ _ _ [] (by simp) (by simp),by simp,by simp⟩,.nil,by simp,by simp⟩
 |str s=>
  simp only[kl]at h
  cases hb:Nat.beq sz 1 with
  |false=>simp[hb]at h
  |true=>
   simp only[hb,cT,Option.some.injEq]at h
   obtain rfl:=Nat.eq_of_beq_eq_true hb
   subst h
   obtain rfl:=hr.str_inv
   have hflat:∀l:List UInt8,(l.map fun(c:UInt8)=>qa.int .u8 c.toNat).flatMap qa.flat=l.map fun(c:UInt8)=>qa.int .u8 c.toNat:=by
    intro l;induction l with
    |nil=>rfl
    |cons c l ih=>simp only[List.map_cons,List.flatMap_cons,ih];rfl
   have hrep:∀l:List UInt8,RepL C (l.map fun(c:UInt8)=>qa.int .u8 c.toNat) (l.map fun b=>Value.int .u8 b.toNat):=by
    intro l;induction l with
    |nil=>exact .nil
    |cons c l ih=>exact .cons _ _ _ _ (.int _ _) ih
   refine⟨byteCells ⟨⟨s⟩⟩,⟨hk,fun w'=>by simp[Builtin.lenOf];rfl,?_,?_,?_,?_⟩,?_,?_,?_⟩
   ·rw[List.length_map];exact firstCells_string (P:=P) ⟨⟨s⟩⟩ w
   ·rw[List.length_map];exact firstCells_string (P:=P) ⟨⟨s⟩⟩ w.drew
   ·simp[byteCells]
   ·intro u hu;obtain⟨_,_,rfl⟩:=List.mem_map.1 hu;rfl
   ·rw[hflat];simpa[byteCells]using hrep s
   ·intro y hy;obtain⟨_,_,rfl⟩:=List.mem_map.1 hy;rfl
   ·intro u hu;obtain⟨_,_,rfl⟩:=List.mem_map.1 hu;rfl
 |_=>simp[kl]at h
theorem qjc {x:qh}{s:Nat}(h:kh env x=some s):x=.tmp s∧∃v,ye s env=some (v,true):=by
 unfold kh at h
 split at h
 ·split at h
  ·rename_i t v hl
   cases h
   exact⟨rfl,v,hl⟩
  ·cases h
 ·cases h
theorem q33 (e:EnvRel C ω w w0.heap.size env a.tmps){x:Operand}{x':qh}{sz len cap:Nat}{xs:List qa}{ad:Addr}(h1:zq x=some x')(hown:(kh env x').isSome=true)(e1:zc env x'=some (.list false sz xs))(hx:a.eval x=.slice (some ad) len cap):ad.spot=none:=by
 obtain⟨s,hs'⟩:=Option.isSome_iff_exists.1 hown
 obtain⟨hx',v0,hl⟩:=qjc hs'
 have hv0:v0=.list false sz xs:=by
  subst hx'
  simp only[zc,hl]at e1
  exact Option.some.inj e1
 subst hv0
 obtain⟨cv,hc1,hc2,hc3⟩:=e s _ hl
 have hcv:cv=.slice (some ad) len cap:=by
  have hxe:zq x=some (.tmp s):=by rw[h1,hx']
  cases x with
  |tmp t'=>
   simp only[zq]at hxe
   cases hxe
   have:a.eval (.tmp s)=cv:=by simp[Act.eval,Array.getD_eq_getD_getElem?,hc1]
   rw[←this,hx]
  |const u=>simp only[zq]at hxe;split at hxe<;>cases hxe
  |func f=>simp[zq]at hxe
  |global g=>simp[zq]at hxe
 subst hcv
 exact(hc3 rfl).2.2.2.1
theorem q8s (m:MInv P C ω w0 C0 hp w)(e:EnvRel C ω w w0.heap.size env a.tmps){c:Call}{t u el:TypeId}{ut:TypeDesc}{x y:Operand}{x' y':qh}{sz b:Nat}{n:Bool}{sz':Nat}{xs ys:List qa}{vy:qa}
  (ho:o.op=.call c) (hcb:c.callee=.builtin .append) (hca:c.args.toList=[x,y]) (hct:c.argTypes.toList=[t,u]) (ht:P.underlying t=some (.slice el)) (hu:P.underlying u=some ut) (hut:qey ut=true)
  (hn:yh P el=some sz) (hb:qds P el=some b) (h1:zq x=some x') (h2:zq y=some y') (e1:zc env x'=some (.list n sz' xs)) (e2:zc env y'=some vy) (hsrc:kl sz vy=some ys)
  (hown:n=true∨(kh env x').isSome=true) (hszs:sz=sz'∨(xs=[]∧n=true)) (hlen:xs.length+ys.length≤1073741824) (hbl:b≤4096) (hzero:∃z,qan P el=some z∧z.length=sz):
  ∃v w',(execOp a.eval o).run P w=.ok (.value v) w'∧kg P C0 w0 C a.tmps d env ⟨qht n sz xs ys,true,kh env x',hp⟩ v w':=by
 have ha:c.args=#[x,y]:=by z8 Array.ext';simpa using hca
 have hty:c.argTypes=#[t,u]:=by z8 Array.ext';simpa using hct
 obtain⟨i,hi,hib⟩:∃i,P.info? el=some i∧i.bytes=b:=by
  unfold qds at hb
  cases hi:P.info? el with
  |none=>simp[hi]at hb
  |some i=>exact⟨i,rfl,by simpa[hi]using hb⟩
 have hsi:i.size=sz:=by
  unfold yh at hn;rw[hi]at hn;simpa using hn
 obtain⟨z,hz,hzl0⟩:=hzero
 obtain⟨zv,hzv⟩:∃zv,i.zero=some zv:=by
  unfold qan at hz;rw[hi]at hz
  cases hq:i.zero with
  |none=>simp[hq]at hz
  |some v=>exact⟨v,rfl⟩
 have rx:=zt e.rep h1 e1
 have ry:=zt e.rep h2 e2
 obtain⟨news,hs,hnews,hysz,hone⟩:=qvt m hu hut hsrc ry
 have hrunE:∀ {z:Value} {w':World},(Builtin.append_ #[t,u] o.type #[a.eval x,a.eval y]).run P w=.ok z w'→(execOp a.eval o).run P w=.ok (.value z) w':=by
  intro z w' h
  simp[execOp,ho,resolve,hcb,ha,hty,invoke,builtin,h]
 have hnl:news.length=ys.length*sz:=by rw[hnews.length,qai ys hysz]
 -- a new row
 have grow:∀(base:Option Addr) (cap:Nat) (olds:List Value),a.eval x=.slice base xs.length cap→cap<xs.length+ys.length→(∀(w':World),w'=w.drew→(Builtin.firstCells i.size xs.length (.slice base xs.length cap)).run P w'=.ok olds.toArray w') →
   RepL C (xs.flatMap qa.flat) olds→(∀v∈olds,v.oneCell'=true)→(∀x∈xs,x.flat.length=sz) →
   ∃v w',(execOp a.eval o).run P w=.ok (.value v) w'∧kg P C0 w0 C a.tmps d env ⟨.list false sz (xs++ys),true,kh env x',hp⟩ v w':=by
  intro base cap olds hbase hcap hold hrold h1old hxsz
  have hfit:Builtin.nextslicecap (xs.length+ys.length) cap*i.bytes≤281474976710656:=growslice_fits hcap (by
   rw[hib]
   exact Nat.le_trans (Nat.mul_le_mul hlen hbl) (by decide))
  have hrun:=run_append_grow_src w t u o.type el i zv ht hi hzv base xs.length cap olds (hold _ rfl) (a.eval y) ys.length news (hsi▸hs) hcap (by omega) hfit
  rw[←hbase]at hrun
  refine⟨_,_,hrunE hrun,?_⟩
  have hx:Ext w w.drew:=Ext.drew w
  have hge:=grownCap_ge w (xs.length+ys.length) cap el
  have hzl:zv.cells.size=sz:=by
   obtain⟨_,zv',hz1,hz2,_⟩:=qbq (C:=C) hz
   have:=hz1 w
   simp[zeroValue,typeInfo,hi,hzv]at this
   subst this
   have:=hz2.length
   simp at this
   omega
  have hcore:=qtj (d:=d) (tmps:=a.tmps) (m.ext hx) (e.ext hx) ((olds++news).toArray++Builtin.zeroCells zv.cells (grownCap w (xs.length+ys.length) cap el-(xs.length+ys.length))) el (xs++ys) sz (grownCap w (xs.length+ys.length) cap el) (olds++news)
   (by rw[List.flatMap_append];exact RepL.append hrold hnews) (by
    intro j v hj
    rw[Array.getElem?_append_left (by simpa using(List.getElem?_eq_some_iff.1 hj).1)]
    simpa using hj) (by
    intro v hv
    rcases List.mem_append.1 hv with hv|hv
    ·exact h1old v hv
    ·exact hone v hv) (by
    intro x hx
    rcases List.mem_append.1 hx with hx|hx
    ·exact hxsz x hx
    ·exact hysz x hx) (by rw[List.length_append];exact hge) (by
    have ho:=hrold.length
    rw[qai xs hxsz]at ho
    simp[Builtin.zeroCells,hzl,ho,hnl]
    rw[←Nat.add_mul,←Nat.add_mul]
    exact Nat.mul_le_mul_right _ (by omega)) (kh env x')
  rw[List.length_append]at hcore
  exact hcore
 rcases rx.list_inv with⟨rfl,rfl,hx⟩|⟨rfl,r,q,cap,hx,hle,hrow⟩|⟨rfl,rfl,ad,hsp,hx⟩
 rotate_right
 ·exact absurd (q33 e h1 (by rcases hown with h|h<;>first|cases h|exact h) e1 hx) hsp
 ·-- nil
  cases ys with
  |nil=>
   have:news=[]:=by cases hnews;rfl
   subst this
   refine⟨.slice none 0 0,w,hrunE ?_,C,ω,Ctx.le_refl C,m,e.strip _,by simpa[qht]using qp.lnil 0,fun _=>trivial⟩
   rw[hx]
   exact ql9 ht hi _ (hsi▸hs)
  |cons y1 ys1=>
   have:=grow none 0 [] hx (by simp) (fun w' _=>run_firstCells_none w' _ _ _ _) .nil (by simp) (by simp)
   simpa[qht]using this
 ·-- own
  rw[show qht false sz xs ys=.list false sz (xs++ys)from rfl]
  have hsome:(kh env x').isSome=true:=by rcases hown with h|h<;>first|cases h|exact h
  obtain⟨s,hs'⟩:=Option.isSome_iff_exists.1 hsome
  obtain⟨hx',v0,hl⟩:=qjc hs'
  obtain rfl:sz=sz':=by rcases hszs with h|⟨_,h⟩<;>first|exact h|cases h
  have hv0:v0=.list false sz xs:=by
   subst hx'
   simp only[zc,hl]at e1
   exact Option.some.inj e1
  subst hv0
  obtain⟨cv,hc1,hc2,hc3⟩:=e s _ hl
  have hcv:cv=.slice (some ⟨r,q,none⟩) xs.length cap:=by
   have hxe:zq x=some (.tmp s):=by rw[h1,hx']
   cases x with
   |tmp t'=>
    simp only[zq]at hxe
    cases hxe
    have:a.eval (.tmp s)=cv:=by simp[Act.eval,Array.getD_eq_getD_getElem?,hc1]
    rw[←this,hx]
   |const u=>simp only[zq]at hxe;split at hxe<;>cases hxe
   |func f=>simp[zq]at hxe
   |global g=>simp[zq]at hxe
  subst hcv
  obtain⟨hω,hB,hβ,_,hq0,⟨cells,te,hg,hfit,_⟩,hK⟩:=hc3 rfl
  simp only at hω hB hβ hg hfit hK
  obtain⟨olds,ho1,ho2⟩:=RepC.vals hrow.cells
  have hxsz:=hrow.sized
  by_cases hroom:xs.length+ys.length≤cap
  ·-- there is room
   have hcapsz:(xs.length+ys.length)*sz≤cap*sz:=Nat.mul_le_mul_right _ hroom
   rw[Nat.add_mul]at hcapsz
   have hrun:=qfc (P:=P) (w:=w) (ty:=o.type) ht hi r q xs.length cap (a.eval y) ys.length news (hsi▸hs) hroom hg (by rw[hsi,hnl];omega)
   rw[←hx]at hrun
   obtain⟨m',e',hle'⟩:=qxi (d:=d) (tmps:=a.tmps) m e (r:=r) (q:=q+xs.length*sz) (news:=news) hω hB hβ hg (by rw[hnl];omega) hK hone
   rw[hsi]at hrun
   rw[hs']
   refine⟨_,_,hrunE hrun,_,_,hle',m',e',?_,?_⟩
   ·have hrow':RepRow (C.put r (q+xs.length*sz) news) r sz (xs++ys) q:=RepRow.append (qp.mono hle' hrow) (RepRow.of_cells (Ctx.put_cells hK hnews) hysz)
    have:=qp.list sz (xs++ys) r q cap (by simpa using hroom) hrow'
    simpa using this
   ·intro _
    have hall:∀x∈xs++ys,x.flat.length=sz:=fun x hx=>by
     rcases List.mem_append.1 hx with hx|hx
     ·exact hxsz x hx
     ·exact hysz x hx
    refine⟨by simp[own1],hB,hβ,rfl,hq0,⟨_,te,setRow_heap w r cells _ te (0,0) hg,?_,Strict.sized hall⟩,?_⟩
    ·simp;omega
    ·intro p hp
     rw[Nat.add_mul]at hp
     simp only[Ctx.put]
     simp only at hp
     rw[if_neg (by rw[hnl];omega)]
     exact hK p (by omega)
  ·-- there is none
   have hk1:∀v∈olds,v.oneCell'=true:=fun v hv=>by
    obtain⟨j,hj⟩:=List.getElem?_of_mem hv
    exact m.kone _ _ _ (ho2 j v hj)
   have hol:olds.length=xs.length*i.size:=by rw[ho1.length,qai xs hxsz,hsi]
   have:=grow (some ⟨r,q,none⟩) cap olds hx (by omega) (fun w' hw'=>run_firstCells_some w' _ _ _ _ _ olds hol (fun j v hj=>by
    subst hw'
    rw[add_lit]
    have:=m.know _ _ _ (ho2 j v hj)
    simpa using this)) ho1 hk1 hxsz
   simpa using this
end
structure jk (w w':World)(r:Nat):Prop where
 size:w'.heap.size=w.heap.size
 other:∀k,k≠r→w'.heap[k]?=w.heap[k]?
 fz:∀c t fr,w'.heap[r]?=some (.cells c t fr)→fr=(0,0)
 os:w'.os=w.os
 output:w'.output=w.output
theorem jm.upd {w w':World}{r:Nat}{cs:Array Value}(h:jm w w' r cs):jk w w' r:=
 ⟨h.size,h.other,fun c t fr hc=>by obtain⟨t',ht⟩:=h.at_;rw[ht]at hc;cases hc;rfl,h.os,h.output⟩
section
variable {P:Program}{C C0:Ctx}{ω:Nat→Option Loc}{w w' w0:World}{hp:j8}{env:Env}{a:Act}{o:Oper}{tmps:Array Value}{d:Loc}
theorem OwnV.updβ {B b r:Nat}{ℓ:Loc}{x:qa}{v:Value}(hu:jk w w' r)(hb:C.β b=some r)(ho:OwnV C ω w B ℓ x v):OwnV C ω w' B ℓ x v:=by
 unfold OwnV at *
 split at ho
 ·obtain⟨h1,h2,h3,h4,h8,⟨cells,elem,h5,h6⟩,h7⟩:=ho
  refine⟨h1,h2,h3,h4,h8,⟨cells,elem,?_,h6⟩,h7⟩
  rw[hu.other _ (fun h=>h3 b (by rw[h];exact hb))]
  exact h5
 ·obtain⟨h1,h2,h3,h4,h8,⟨cells,elem,h5,h6⟩,h7⟩:=ho
  refine⟨h1,h2,h3,h4,h8,⟨cells,elem,?_,h6⟩,h7⟩
  rw[hu.other _ (fun h=>h3 b (by rw[h];exact hb))]
  exact h5
 ·trivial
theorem EnvRel.updβ {B b r:Nat}(hu:jk w w' r)(hb:C.β b=some r)(e:EnvRel C ω w B env tmps):EnvRel C ω w' B env tmps:=
 fun s x hx=>let ⟨v,h1,h2,h3⟩:=e s x hx; ⟨v,h1,h2,fun h=>(h3 h).updβ hu hb⟩
theorem BoxRel.updβ {B b b' r r':Nat}{x:qn}(hu:jk w w' r)(hb:C.β b=some r)(hne:r'≠r)(h:BoxRel P C ω w B b' r' x):BoxRel P C ω w' B b' r' x:=by
 have hg:=hu.other r' hne
 cases x with
 |hole=>exact h
 |cells cs'=>
  obtain⟨vs,elem,h1,h2,h3⟩:=h
  exact⟨vs,elem,by rw[hg];exact h1,h2,fun j c hc=>let ⟨v,a,q,b,d⟩:=h3 j c hc; ⟨v,a,q,b,fun e=>(d e).updβ hu hb⟩⟩
 |map es=>obtain⟨ents,clock,h1,h2⟩:=h;exact⟨ents,clock,by rw[hg];exact h1,h2⟩
 |iter s pos=>show w'.heap[r']?=_;rw[hg];exact h
 |loop l=>obtain⟨lp,h1,h2⟩:=h;exact⟨lp,by rw[hg];exact h1,h2⟩
 |bld t e l=>obtain⟨p,v,h1,h2,h3,h4⟩:=h;exact⟨p,v,by rw[hg];exact h1,h2,h3,h4.updβ hu hb⟩
 |dead=>obtain⟨cs,t,h1⟩:=h;exact⟨cs,t,by rw[hg];exact h1⟩
 |vec sz ver xs=>exact VecRel.imp (fun _ _ _ h=>h) (fun _ h=>h) (fun _ h _=>h) hg (fun q n cap k=>⟨hu.other q (fun hq=>k.2.2.1 b (by rw[hb];exact congrArg some hq.symm)),k.updβ hu hb⟩) h
theorem MInv.updBox {ω':Nat→Option Loc}(m:MInv P C ω w0 C0 hp w){b r:Nat}(hu:jk w w' r)(hb:C.β b=some r)(x':qn)(hω:∀b' j y v,b'≠b→OwnV C ω w w0.heap.size (.cell b' j) y v→OwnV C ω' w w0.heap.size (.cell b' j) y v)
  (hbox:BoxRel P C ω' w' w0.heap.size b r x'):MInv P C ω' w0 C0 (hp.set b x') w':=by
 have hfr:=m.fresh b r hb
 have hnd:w.heap[r]?≠some (.deferred (some [])):=by
  obtain⟨x,hx⟩:=List.getElem?_eq_getElem (m.lt b r hb).2▸(⟨_,rfl⟩:∃x,some (hp[b]'(m.lt b r hb).2)=some x)
  have h0:=m.box b x r hx hb
  intro h
  cases x with
  |hole=>exact h0
  |cells cs=>obtain⟨vs,elem,h1,_⟩:=h0;rw[h]at h1;cases h1
  |map es=>obtain⟨ents,clock,h1,_⟩:=h0;rw[h]at h1;cases h1
  |iter s pos=>have h1:w.heap[r]?=_:=h0;rw[h]at h1;cases h1
  |loop l=>obtain⟨lp,h1,_⟩:=h0;rw[h]at h1;cases h1
  |bld t e l=>obtain⟨p,v,h1,_⟩:=h0;rw[h]at h1;cases h1
  |dead=>obtain⟨cs,t,h1⟩:=h0;rw[h]at h1;cases h1
  |vec sz ver xs=>obtain⟨_,_,_,_,_,_,cs,t,h1⟩:=h0;rw[h]at h1;cases h1
 refine { base:=m.base,know:=?_,kone:=m.kone,apart:=m.apart,inj:=m.inj,lt:=?_,size:=?_,frame:=?_,dfr:=?_,os:=hu.os.trans m.os,output:=hu.output.trans m.output,fresh:=m.fresh,grown:=m.grown,old:=m.old,box:=?_,tlt:=fun q hq=>by rw[hu.size];exact m.tlt q hq }
 ·intro k p v hk
  have hne:k≠r:=fun h=>by rw[h,m.apart b r p hb]at hk;cases hk
  have hc:=m.know _ _ _ hk
  simp only[World.cell?]at hc ⊢
  rw[hu.other k hne]
  exact hc
 ·intro k p hk
  rw[hu.size,List.length_set];exact m.lt k p hk
 ·rw[hu.size];exact m.size
 ·intro k hk hn hw
  by_cases hkr:k=r
  ·subst hkr
   rcases hfr with h|h|h
   ·exact absurd h (hn b)
   ·omega
   ·exact absurd h hw
  ·rw[hu.other k hkr];exact m.frame k hk hn hw
 ·intro k hk
  have hkr:k≠r:=fun h=>hnd (h▸m.dfr k hk)
  rw[hu.other k hkr];exact m.dfr k hk
 ·intro k x p hx hk
  by_cases hkb:k=b
  ·subst hkb
   rw[hb]at hk
   cases hk
   rw[List.getElem?_set_self (m.lt k _ hb).2]at hx
   cases hx
   exact hbox
  ·rw[List.getElem?_set_ne (Ne.symm hkb)]at hx
   have hpr:p≠r:=fun h=>hkb (m.inj k b p hk (h▸hb))
   have h0:=m.box k x p hx hk
   exact((h0.updβ hu hb hpr).mono (ω':=ω') (Ctx.le_refl C) (fun j y v ho=>by
    have:=hω k j y v hkb
    -- the ownerships of other boxes,in the new world
    unfold OwnV at ho this ⊢
    split at ho
    ·obtain⟨h1,h2,h3,h4,h8,⟨cells,elem,h5,h6⟩,h7⟩:=ho
     rename_i ad len cap
     have hne':ad.block≠r:=fun h=>h3 b (h▸hb)
     rw[hu.other _ hne']at h5
     obtain⟨k1,_⟩:=this ⟨h1,h2,h3,h4,h8,⟨cells,elem,h5,h6⟩,h7⟩
     exact⟨k1,h2,h3,h4,h8,⟨cells,elem,by rw[hu.other _ hne'];exact h5,h6⟩,h7⟩
    ·obtain⟨h1,h2,h3,h4,h8,⟨cells,elem,h5,h6⟩,h7⟩:=ho
     rename_i ad
     have hne':ad.block≠r:=fun h=>h3 b (h▸hb)
     rw[hu.other _ hne']at h5
     obtain⟨k1,_⟩:=this ⟨h1,h2,h3,h4,h8,⟨cells,elem,h5,h6⟩,h7⟩
     exact⟨k1,h2,h3,h4,h8,⟨cells,elem,by rw[hu.other _ hne'];exact h5,h6⟩,h7⟩
    ·trivial))
theorem BoxRel.read {B b r off n:Nat}{cs:List (qa×Bool)}{us:List qa}(h:BoxRel P C ω w B b r (.cells cs))(hl:y9 cs off n=some us):
  ∃vs,RepL C us vs∧us.length=n∧vs.length=n∧(∀j v,vs[j]?=some v→w.cell? ⟨r,off+j,none⟩=some v)∧∀v∈vs,v.oneCell'=true:=by
 unfold y9 at hl
 cases hb:Nat.ble (off+n) cs.length with
 |false=>simp[hb]at hl
 |true=>
  simp only[hb,cT,Option.some.injEq]at hl
  subst hl
  have hle:=Nat.le_of_ble_eq_true hb
  obtain⟨vs,elem,h1,h2,h3⟩:=h
  have key:∀(n off:Nat),off+n≤cs.length→∃ws:List Value,RepL C (((cs.drop off).take n).map (·.1)) ws∧ws.length=n∧∀j v,ws[j]?=some v→vs[off+j]?=some v∧v.oneCell'=true:=by
   intro n
   induction n with
   |zero=>intro off _;exact⟨[],by simpa using qp.nil,rfl,by simp⟩
   |succ n ih=>
    intro off hle
    obtain⟨ws,i1,i2,i3⟩:=ih (off+1) (by omega)
    have hlt:off<cs.length:=by omega
    obtain⟨v,j1,j2,j3,_⟩:=h3 off cs[off] (List.getElem?_eq_getElem hlt)
    refine⟨v::ws,?_,by simp[i2],?_⟩
    ·rw[List.drop_eq_getElem_cons hlt]
     exact .cons _ _ _ _ j3 i1
    ·intro j u hj
     cases j with
     |zero=>simp at hj;subst hj;exact⟨j1,j2⟩
     |succ j=>simp at hj;rw[show off+(j+1)=off+1+j from by omega];exact i3 j u hj
  obtain⟨ws,k1,k2,k3⟩:=key n off hle
  refine⟨ws,k1,by simp;omega,k2,?_,?_⟩
  ·intro j v hj
   have:=(k3 j v hj).1
   simp[World.cell?,h1,this]
  ·intro v hv
   obtain⟨j,hj⟩:=List.getElem?_of_mem hv
   exact(k3 j v hj).2
theorem qgo {t:TypeId}{n r off:Nat}{vs:List Value}(hg:qak P t=some true)(hn:yh P t=some n)(hl:vs.length=n)(hc:∀j v,vs[j]?=some v→w.cell? ⟨r,off+j,none⟩=some v):
  (loadVar t ⟨r,off,none⟩).run P w=.ok (.agg ⟨vs⟩) w:=by
 have:=run_loadCells_list (P:=P) w ⟨r,off,none⟩ vs (fun j v hj=>by rw[add_lit];exact hc j v hj)
 rw[hl]at this
 simp[loadVar,qf5 hg,qah hn,this]
theorem qge {t:TypeId}{r off:Nat}{v:Value}(hg:qak P t=some false)(hc:w.cell? ⟨r,off,none⟩=some v):(loadVar t ⟨r,off,none⟩).run P w=.ok v w:=by
 simp[loadVar,qf5 hg,hc]
theorem qul (m:MInv P C ω w0 C0 hp w)(he:EnvRep C env a.tmps){t:TypeId}{x:Operand}{x':qh}{n:Nat}{ag:Bool}{p v:qa}(ho:o.op=.load t x)(hg:qak P t=some ag)(hn:yh P t=some n)(h1n:ag=false→n=1)(h1:zq x=some x')(e1:zc env x'=some p)
  (hv:(∃b q cs us,p=.ptr b q∧yn hp b=some cs∧y9 cs q n=some us∧((ag=true∧v=.agg us)∨(ag=false∧us=[v])))∨(p=.vptr v∧Bool.xor ag v.isAgg=false∧v.flat.length=n)):Val P C a o w v:=by
 rcases hv with⟨b,q,cs,us,rfl,hbc,hl,hv⟩|⟨rfl,hx,hvl⟩
 ·obtain⟨r,hr,hq⟩:=(zt he h1 e1).ptr_inv
  have hbx:hp[b]?=some (.cells cs):=by
   unfold yn at hbc
   split at hbc
   ·rename_i cs' h;cases hbc;exact h
   ·cases hbc
  obtain⟨vs,k1,_,k2,k3,_⟩:=(m.box b _ r hbx hr).read hl
  rcases hv with⟨rfl,rfl⟩|⟨rfl,rfl⟩
  ·exact⟨.agg ⟨vs⟩,by simp[execOp,ho,Instr.loadAt,hq,Instr.sureAddr,qgo hg hn k2 k3],.agg _ _ k1⟩
  ·cases k1 with
   |cons _ _ u us hu hnil=>
    cases hnil
    refine⟨u,?_,hu⟩
    have:=qge (P:=P) hg (by simpa using k3 0 u rfl)
    simp[execOp,ho,Instr.loadAt,hq,Instr.sureAddr,this]
 ·obtain⟨r,q,hq,hc⟩:=(zt he h1 e1).vptr_inv
  obtain⟨vs,k1,k2⟩:=RepC.vals hc
  have hl:vs.length=n:=by rw[k1.length,hvl]
  have k3:∀j u,vs[j]?=some u→w.cell? ⟨r,q+j,none⟩=some u:=fun j u hj=>m.know _ _ _ (k2 j u hj)
  cases ag with
  |true=>
   cases v<;>simp[qa.isAgg]at hx
   exact⟨.agg ⟨vs⟩,by simp[execOp,ho,Instr.loadAt,hq,Instr.sureAddr,qgo hg hn hl k3],.agg _ _ k1⟩
  |false=>
   rw[qcz (by simpa using hx)]at k1
   cases k1 with
   |cons _ _ u us hu hnil=>
    cases hnil
    refine⟨u,?_,hu⟩
    have:=qge (P:=P) hg (by simpa using k3 0 u rfl)
    simp[execOp,ho,Instr.loadAt,hq,Instr.sureAddr,this]
def Ctx.box (C:Ctx)(b r:Nat):Ctx:={ C with β:=fun k=>if k=b then some r else C.β k }
theorem Ctx.box_le {b r:Nat}(h:C.β b=none):C.le (C.box b r):=
 ⟨fun _ _ _ h=>h,fun k p hk=>by
  simp only[Ctx.box]
  rw[if_neg (fun hb=>by rw[hb,h]at hk;cases hk)]
  exact hk,rfl,fun _ h=>h,fun _ h=>h⟩
theorem OwnV.box {B b r:Nat}{ℓ:Loc}{x:qa}{v:Value}(hr:w.heap.size≤r∨ω r≠some ℓ)(ho:OwnV C ω w B ℓ x v):OwnV (C.box b r) ω w B ℓ x v:=by
 unfold OwnV at *
 split at ho
 ·rename_i ad len cap
  obtain⟨h1,h2,h3,h4,h8,⟨cells,elem,h5,h6⟩,h7⟩:=ho
  have hlt:ad.block<w.heap.size:=(Array.getElem?_eq_some_iff.1 h5).1
  refine⟨h1,h2,fun k hk=>?_,h4,h8,⟨cells,elem,h5,h6⟩,h7⟩
  simp only[Ctx.box]at hk
  split at hk
  ·have hbr:r=ad.block:=Option.some.inj hk
   rcases hr with hr|hr
   ·omega
   ·exact hr (hbr▸h1)
  ·exact h3 k hk
 ·rename_i ad
  obtain⟨h1,h2,h3,h4,h8,⟨cells,elem,h5,h6⟩,h7⟩:=ho
  have hlt:ad.block<w.heap.size:=(Array.getElem?_eq_some_iff.1 h5).1
  refine⟨h1,h2,fun k hk=>?_,h4,h8,⟨cells,elem,h5,h6⟩,h7⟩
  simp only[Ctx.box]at hk
  split at hk
  ·have hbr:r=ad.block:=Option.some.inj hk
   rcases hr with hr|hr
   ·omega
   ·exact hr (hbr▸h1)
  ·exact h3 k hk
 ·trivial
theorem qaq {h0 rk:Nat}{x:qn}{h':j8}(h:newBox h0 hp rk x=some h'):hp[h0+rk]?=some .hole∧h'=hp.set (h0+rk) x:=by
 unfold newBox at h
 split at h
 ·rename_i hh;cases h;exact⟨hh,rfl⟩
 ·cases h
theorem qi7 (m:MInv P C ω w0 C0 hp w){b:Nat}(h:hp[b]?=some .hole):C.β b=none:=by
 cases hb:C.β b with
 |none=>rfl
 |some r=>exact(m.box b .hole r h hb).elim
theorem MInv.newBox (m:MInv P C ω w0 C0 hp w)(e:EnvRel C ω w w0.heap.size env tmps){b:Nat}(hh:hp[b]?=some .hole)(obj:Obj)(hobj:∀c t fr,obj=.cells c t fr→fr=(0,0))(x:qn)
  (hbox:∀C' ω' w',C.le C'→w'.heap[w.heap.size]?=some obj→BoxRel P C' ω' w' w0.heap.size b w.heap.size x):
  MInv P (C.box b w.heap.size) ω w0 C0 (hp.set b x) (w.alloc obj)∧EnvRel (C.box b w.heap.size) ω (w.alloc obj) w0.heap.size env tmps∧C.le (C.box b w.heap.size):=by
 have hx:Ext w (w.alloc obj):=Ext.alloc w obj hobj
 have hβ:=qi7 m hh
 have hle:=Ctx.box_le (C:=C) (r:=w.heap.size) hβ
 have m':=m.ext hx
 have hlt:b<hp.length:=(List.getElem?_eq_some_iff.1 hh).1
 refine⟨{ m' with apart:=?_,inj:=?_,lt:=?_,fresh:=?_,grown:=Ctx.le_trans m.grown hle,box:=?_ },?_,hle⟩
 ·intro k r q hk
  simp only[Ctx.box]at hk
  split at hk
  ·cases hk;exact m.K_new _ (Nat.le_refl _) q
  ·exact m.apart k r q hk
 ·intro k k' r hk hk'
  simp only[Ctx.box]at hk hk'
  split at hk<;>split at hk'
  ·rename_i h1 h2;rw[h1,h2]
  ·cases hk;have:=(m.lt k' _ hk').1;omega
  ·cases hk';have:=(m.lt k _ hk).1;omega
  ·exact m.inj k k' r hk hk'
 ·intro k r hk
  rw[List.length_set]
  simp only[Ctx.box]at hk
  split at hk
  ·rename_i h1;cases hk;subst h1;exact⟨by rw[World.size_alloc];omega,hlt⟩
  ·have:=m.lt k r hk;exact⟨by rw[World.size_alloc];omega,this.2⟩
 ·intro k r hk
  simp only[Ctx.box]at hk
  split at hk
  ·cases hk;exact .inr (.inl m.size)
  ·exact m.fresh k r hk
 ·intro k y r hy hk
  simp only[Ctx.box]at hk
  split at hk
  ·rename_i h1
   subst h1
   cases hk
   rw[List.getElem?_set_self hlt]at hy
   cases hy
   exact hbox _ _ _ hle (by rw[qdn,if_pos rfl])
  ·rename_i h1
   rw[List.getElem?_set_ne (Ne.symm h1)]at hy
   exact((m.box k y r hy hk).mono (ω':=ω) hle fun j z v ho=>ho.box (.inl (Nat.le_refl _))).ext hx
 ·exact fun s y hy=>let ⟨v,h1,h2,h3⟩:=e s y hy; ⟨v,h1,qp.mono hle h2,fun h=>((h3 h).box (.inl (Nat.le_refl _))).ext hx⟩
theorem OwnV.boxN {B b r:Nat}{ℓ:Loc}{x:qa}{v:Value}(hr:∀cs t fr,w.heap[r]?≠some (.cells cs t fr))(ho:OwnV C ω w B ℓ x v):OwnV (C.box b r) ω w B ℓ x v:=by
 unfold OwnV at *
 split at ho
 ·rename_i ad len cap
  obtain⟨h1,h2,h3,h4,h8,⟨cells,elem,h5,h6⟩,h7⟩:=ho
  refine⟨h1,h2,fun k hk=>?_,h4,h8,⟨cells,elem,h5,h6⟩,h7⟩
  simp only[Ctx.box]at hk
  split at hk
  ·have hbr:r=ad.block:=Option.some.inj hk
   exact absurd (hbr▸h5) (hr _ _ _)
  ·exact h3 k hk
 ·rename_i ad
  obtain⟨h1,h2,h3,h4,h8,⟨cells,elem,h5,h6⟩,h7⟩:=ho
  refine⟨h1,h2,fun k hk=>?_,h4,h8,⟨cells,elem,h5,h6⟩,h7⟩
  simp only[Ctx.box]at hk
  split at hk
  ·have hbr:r=ad.block:=Option.some.inj hk
   exact absurd (hbr▸h5) (hr _ _ _)
  ·exact h3 k hk
 ·trivial
theorem MInv.boxAt (m:MInv P C ω w0 C0 hp w)(e:EnvRel C ω w w0.heap.size env tmps){b q:Nat}{es:List (qa×qa)}{ents:Array MapEntry}{clock:Nat}(hh:hp[b]?=some .hole)(hg:w.heap[q]?=some (.map ents clock))(hq:∀k,C.β k≠some q)(hb:w0.heap.size≤q)(hr:qy C es ents.toList):
  MInv P (C.box b q) ω w0 C0 (hp.set b (.map es)) w∧EnvRel (C.box b q) ω w w0.heap.size env tmps∧C.le (C.box b q):=by
 have hβ:=qi7 m hh
 have hle:=Ctx.box_le (C:=C) (r:=q) hβ
 have hlt:b<hp.length:=(List.getElem?_eq_some_iff.1 hh).1
 have hnc:∀cs t fr,w.heap[q]?≠some (.cells cs t fr):=fun cs t fr h=>by rw[hg]at h;cases h
 refine⟨{ m with apart:=?_,inj:=?_,lt:=?_,fresh:=?_,grown:=Ctx.le_trans m.grown hle,box:=?_ },?_,hle⟩
 ·intro k r o hk
  simp only[Ctx.box]at hk
  split at hk
  ·cases hk
   show C.K q o=none
   cases hK:C.K q o with
   |none=>rfl
   |some v=>
    have:=m.know q o v hK
    simp[World.cell?,hg]at this
  ·exact m.apart k r o hk
 ·intro k k' r hk hk'
  simp only[Ctx.box]at hk hk'
  split at hk<;>split at hk'
  ·rename_i h1 h2;rw[h1,h2]
  ·cases hk;exact absurd hk' (hq k')
  ·cases hk';exact absurd hk (hq k)
  ·exact m.inj k k' r hk hk'
 ·intro k r hk
  rw[List.length_set]
  simp only[Ctx.box]at hk
  split at hk
  ·rename_i h1;cases hk;subst h1;exact⟨(Array.getElem?_eq_some_iff.1 hg).1,hlt⟩
  ·exact m.lt k r hk
 ·intro k r hk
  simp only[Ctx.box]at hk
  split at hk
  ·cases hk;exact .inr (.inl hb)
  ·exact m.fresh k r hk
 ·intro k y r hy hk
  simp only[Ctx.box]at hk
  split at hk
  ·rename_i h1
   subst h1
   cases hk
   rw[List.getElem?_set_self hlt]at hy
   cases hy
   exact⟨ents,clock,hg,hr.mono hle⟩
  ·rename_i h1
   rw[List.getElem?_set_ne (Ne.symm h1)]at hy
   exact(m.box k y r hy hk).mono (ω':=ω) hle fun j z v ho=>ho.boxN hnc
 ·exact fun s y hy=>let ⟨v,h1,h2,h3⟩:=e s y hy; ⟨v,h1,qp.mono hle h2,fun h=>(h3 h).boxN hnc⟩
theorem qox {xs:List qa}{vs:List Value}{t:TypeId}{B b r:Nat}{cells:Array Value}(hr:RepL C xs vs)(hs:∀x∈xs,ze x=true)(hv:∀(j:Nat) v,vs[j]?=some v→cells[j]?=some v)(hl:xs.length≤cells.size):
  ∀C' ω' w',C.le C'→w'.heap[r]?=some (.cells cells t (0,0))→BoxRel P C' ω' w' B b r (.cells (cellsOf xs)):=by
 intro C' ω' w' hle hg
 refine⟨cells,t,hg,by simpa[cellsOf]using hl,?_⟩
 intro j c hc
 simp only[cellsOf,List.getElem?_map,Option.map_eq_some_iff]at hc
 obtain⟨x,hx,rfl⟩:=hc
 obtain⟨v,h1,h2⟩:=hr.get hx
 exact⟨v,hv j v h1,qmn h2 (hs x (List.mem_of_getElem? hx)),qp.mono hle h2,by simp⟩
theorem jas (m:MInv P C ω w0 C0 hp w)(e:EnvRel C ω w w0.heap.size env a.tmps){t:TypeId}{z:List qa}{h0 rk:Nat}{h':j8}(ho:o.op=.alloc t)(hz:qan P t=some z)(hs:∀x∈z,ze x=true)(hn:newBox h0 hp rk (.cells (cellsOf z))=some h'):
  ∃v w',(execOp a.eval o).run P w=.ok (.value v) w'∧kg P C0 w0 C a.tmps d env ⟨.ptr (h0+rk) 0,false,none,h'⟩ v w':=by
 obtain⟨hh,rfl⟩:=qaq hn
 obtain⟨_,zv,hzr,hzrep,hz1⟩:=qbq (C:=C) hz
 obtain⟨m',e',hle⟩:=m.newBox e hh (.cells zv.cells t) (fun c t fr h=>by cases h;rfl) (.cells (cellsOf z)) (qox hzrep hs (fun j v h=>by simpa using h) (by have:=hzrep.length;simp at this;omega))
 refine⟨.pointer (some ⟨w.heap.size,0,none⟩),_,?_,_,_,hle,m',e',.ptr _ _ _ (by simp[Ctx.box]),by simp⟩
 simp[execOp,ho,Instr.alloc,hzr,newVar,newRow]
theorem jmi (m:MInv P C ω w0 C0 hp w)(e:EnvRel C ω w w0.heap.size env a.tmps){t:TypeId}{x:Operand}{x':qh}{v:qa}{h0 rk:Nat}{h':j8}(ho:o.op=.box t x)(h1:zq x=some x')(e1:zc env x'=some v)(hs:v.flat.all ze=true)
  (hn:newBox h0 hp rk (.cells (cellsOf v.flat))=some h'):
  ∃v w',(execOp a.eval o).run P w=.ok (.value v) w'∧kg P C0 w0 C a.tmps d env ⟨.ptr (h0+rk) 0,false,none,h'⟩ v w':=by
 obtain⟨hh,rfl⟩:=qaq hn
 have hr:=qer (zt e.rep h1 e1) hs
 obtain⟨m',e',hle⟩:=m.newBox e hh (.cells (a.eval x).cells t) (fun c t fr h=>by cases h;rfl) (.cells (cellsOf v.flat)) (qox hr (by simpa using hs) (fun j v h=>by simpa using h) (by have:=hr.length;simp at this;omega))
 refine⟨.pointer (some ⟨w.heap.size,0,none⟩),_,?_,_,_,hle,m',e',.ptr _ _ _ (by simp[Ctx.box]),by simp⟩
 simp[execOp,ho,Instr.box,newVar,newRow]
theorem jf1 (m:MInv P C ω w0 C0 hp w)(e:EnvRel C ω w w0.heap.size env a.tmps){t:TypeId}{x:Operand}{x':qh}{v:qa}(ho:o.op=.box t x)(h1:zq x=some x')(e1:zc env x'=some v)(hs:v.flat.all ze=true):
  ∃u w',(execOp a.eval o).run P w=.ok (.value u) w'∧kg P C0 w0 C a.tmps d env ⟨.vptr v,false,none,hp⟩ u w':=by
 have hr:=qer (zt e.rep h1 e1) hs
 have hx:Ext w (w.alloc (.cells (a.eval x).cells t)):=Ext.alloc w _ (fun c t fr h=>by cases h;rfl)
 have hn:∀o,0≤o→C.K w.heap.size o=none:=fun o _=>m.K_new _ (Nat.le_refl _) o
 have m':=m.newRow (a.eval x).cells t (a.eval x).cells.toList (fun j v h=>by simpa using h) (qc8 hr (fun y hy=>List.all_eq_true.1 hs y hy))
 refine⟨.pointer (some ⟨w.heap.size,0,none⟩),_,?_,_,ω,Ctx.put_le _ hn,m',(e.put _ (.inl (Nat.le_refl _)) hn).ext hx,.vptr _ _ _ (Ctx.put_cells hn hr),by simp⟩
 simp[execOp,ho,Instr.box,newVar,newRow]
theorem jlg (m:MInv P C ω w0 C0 hp w)(e:EnvRel C ω w w0.heap.size env a.tmps){t:TypeId}{e' sz:Nat}{h0 rk:Nat}{h':j8}(ho:o.op=.alloc t)(hz:qan P t=some [.nilptr,.list true sz []])(hn:newBox h0 hp rk (.bld t e' [])=some h'):
  ∃v w',(execOp a.eval o).run P w=.ok (.value v) w'∧kg P C0 w0 C a.tmps d env ⟨.ptr (h0+rk) 0,false,none,h'⟩ v w':=by
 obtain⟨hh,rfl⟩:=qaq hn
 obtain⟨_,zv,hzr,hzrep,hz1⟩:=qbq (C:=C) hz
 have hzc:zv.cells=#[.pointer none,.slice none 0 0]:=by
  z8 Array.ext'
  generalize zv.cells.toList=vs at hzrep
  cases hzrep with
  |cons _ _ v vs h1 h2=>
   cases h2 with
   |cons _ _ u us h3 h4=>
    cases h4
    cases h1
    cases h3
    rfl
 obtain⟨m',e',hle⟩:=m.newBox e hh (.cells zv.cells t) (fun c t fr h=>by cases h;rfl) (.bld t e' []) (fun C' ω' w' _ hg=>⟨.pointer none,.slice none 0 0,by rw[hzc]at hg;exact hg,.inl rfl,.inl ⟨rfl,rfl⟩,trivial⟩)
 refine⟨.pointer (some ⟨w.heap.size,0,none⟩),_,?_,_,_,hle,m',e',.ptr _ _ _ (by simp[Ctx.box]),by simp⟩
 simp[execOp,ho,Instr.alloc,hzr,newVar,newRow]
theorem jbp (m:MInv P C ω w0 C0 hp w)(e:EnvRel C ω w w0.heap.size env a.tmps){t:TypeId}{h0 rk:Nat}{h':j8}(ho:o.op=.makeMap t none)(hn:newBox h0 hp rk (.map [])=some h'):
  ∃v w',(execOp a.eval o).run P w=.ok (.value v) w'∧kg P C0 w0 C a.tmps d env ⟨.map (h0+rk),false,none,h'⟩ v w':=by
 obtain⟨hh,rfl⟩:=qaq hn
 obtain⟨m',e',hle⟩:=m.newBox e hh (.map #[] 0) (fun c t fr h=>by cases h) (.map []) (fun C' ω' w' _ hg=>⟨#[],0,hg,.nil⟩)
 refine⟨.map (some w.heap.size),_,?_,_,_,hle,m',e',.map _ _ (by simp[Ctx.box]),by simp⟩
 simp[execOp,ho,Instr.makeMap]
theorem q7b (m:MInv P C ω w0 C0 hp w)(e:EnvRel C ω w w0.heap.size env a.tmps){t:TypeId}{x:Operand}{x':qh}{s:List UInt8}{h0 rk:Nat}{h':j8}(ho:o.op=.range t x)(ht:P.underlying t=some .string)(h1:zq x=some x')(e1:zc env x'=some (.str s))(hn:newBox h0 hp rk (.iter s 0)=some h'):
  ∃v w',(execOp a.eval o).run P w=.ok (.value v) w'∧kg P C0 w0 C a.tmps d env ⟨.ptr (h0+rk) 0,false,none,h'⟩ v w':=by
 obtain⟨hh,rfl⟩:=qaq hn
 have hs:=(zt e.rep h1 e1).str_inv
 obtain⟨m',e',hle⟩:=m.newBox e hh (.stringIter ⟨⟨s⟩⟩ 0) (fun c t fr h=>by cases h) (.iter s 0) (fun C' ω' w' _ hg=>hg)
 refine⟨.pointer (some ⟨w.heap.size,0,none⟩),_,?_,_,_,hle,m',e',.ptr _ _ _ (by simp[Ctx.box]),by simp⟩
 simp[execOp,ho,Instr.range,run_underlying ht,hs]
end
section
variable {P:Program}{C C0:Ctx}{ω:Nat→Option Loc}{w w' w0:World}{hp:j8}{env:Env}{a:Act}{o:Oper}{tmps:Array Value}{d:Loc}
def qe7 (ω:Nat→Option Loc)(x:qa)(v:Value)(ℓ:Loc):Nat→Option Loc:=
 match x,v with
 | .list ..,.slice (some ad) _ _=>own1 ω ad.block ℓ
 | .pend _,.pointer (some ad)=>own1 ω ad.block ℓ
 |_,_=>ω
theorem qco {B:Nat}{ℓ0 ℓ ℓ':Loc}{x z:qa}{cv u:Value}(h0:OwnV C ω w B ℓ0 x cv)(hne:ℓ≠ℓ0)(hz:OwnV C ω w B ℓ z u):OwnV C (qe7 ω x cv ℓ') w B ℓ z u:=by
 unfold qe7
 split
 ·rename_i ad l c
  have hω:ω ad.block=some ℓ0:=h0.1
  exact hz.other (.inl (by rw[hω];intro h;exact hne (Option.some.inj h).symm))
 ·rename_i n ad
  have hω:ω ad.block=some ℓ0:=h0.1
  exact hz.other (.inl (by rw[hω];intro h;exact hne (Option.some.inj h).symm))
 ·exact hz
theorem qiq {B:Nat}{ℓ0 ℓ':Loc}{x:qa}{cv:Value}(h0:OwnV C ω w B ℓ0 x cv):OwnV C (qe7 ω x cv ℓ') w B ℓ' x cv:=by
 unfold qe7
 split
 ·exact⟨by simp[own1],h0.2⟩
 ·exact⟨by simp[own1],h0.2⟩
 ·rename_i h1 h2
  unfold OwnV
  split
  ·exact absurd rfl (h1 _ _ _ _ _ _ rfl)
  ·exact absurd rfl (h2 _ _ rfl)
  ·trivial
theorem qb2 {b:Nat}{cs:List (qa×Bool)}(h:yn hp b=some cs):hp[b]?=some (.cells cs):=by
 unfold yn at h
 split at h
 ·rename_i cs' h';cases h;exact h'
 ·cases h
theorem qes {b:Nat}{x:qn}{h':j8}(h:ym hp b x=some h'):h'=hp.set b x:=by
 unfold ym at h
 cases hb:Nat.blt b hp.length with
 |false=>simp[hb]at h
 |true=>simpa[hb]using h.symm
theorem BoxRel.store {ω':Nat→Option Loc}{B b r off:Nat}{cs:List (qa×Bool)}{us:List qa}{news:List Value}{fl:List Bool}{vs:Array Value}{t:TypeId}(hfl:fl.length=us.length)(hr:RepL C us news)(h1:∀v∈news,v.oneCell'=true)
  (hl:off+us.length≤cs.length) (hsz:cs.length≤vs.size) (hold:∀j c,cs[j]?=some c→∃v,vs[j]?=some v∧v.oneCell'=true∧Rep C c.1 v∧(c.2=true→OwnV C ω' w' B (.cell b j) c.1 v))
  (hnew:∀j u v,us[j]?=some u→news[j]?=some v→fl[j]?=some true→OwnV C ω' w' B (.cell b (off+j)) u v)
  (hg:w'.heap[r]?=some (.cells (vs.toList.take off++news++vs.toList.drop (off+news.length)).toArray t (0,0))):
  BoxRel P C ω' w' B b r (.cells (cs.take off++us.zip fl++cs.drop (off+us.length))):=by
 have hnl:=hr.length
 refine⟨_,t,hg,?_,?_⟩
 ·simp;omega
 ·intro j c hc
  rw[List.append_assoc]at hc
  have e1:(List.take off cs).length=off:=by simp;omega
  have e2:(us.zip fl).length=us.length:=by simp[hfl]
  have f1:(List.take off vs.toList).length=off:=by simp;omega
  simp only[List.getElem?_toArray,List.append_assoc]
  by_cases hj:j<off
  ·rw[List.getElem?_append_left (by omega),List.getElem?_take_of_lt hj]at hc
   obtain⟨v,a1,a2,a3,a4⟩:=hold j c hc
   exact⟨v,by rw[List.getElem?_append_left (by omega),List.getElem?_take_of_lt hj,Array.getElem?_toList];exact a1,a2,a3,a4⟩
  ·rw[List.getElem?_append_right (by omega),e1]at hc
   by_cases hj2:j<off+us.length
   ·rw[List.getElem?_append_left (by omega)]at hc
    have hcl:=List.getElem?_zip_eq_some.1 hc
    obtain⟨v,a1,a2⟩:=hr.get hcl.1
    refine⟨v,by rw[List.getElem?_append_right (by omega),f1,List.getElem?_append_left (by omega)];exact a1,h1 v (List.mem_of_getElem? a1),a2,fun hf=>?_⟩
    have:=hnew (j-off) c.1 v hcl.1 a1 (by rw[hcl.2,hf])
    rw[show off+(j-off)=j from by omega]at this
    exact this
   ·rw[List.getElem?_append_right (by omega),e2,List.getElem?_drop]at hc
    rw[show off+us.length+(j-off-us.length)=j from by omega]at hc
    obtain⟨v,a1,a2,a3,a4⟩:=hold j c hc
    exact⟨v,by rw[List.getElem?_append_right (by omega),f1,List.getElem?_append_right (by omega),List.getElem?_drop,show off+news.length+(j-off-news.length)=j from by omega,Array.getElem?_toList];exact a1,a2,a3,a4⟩
theorem ja7 (us:List qa):us.zip (List.replicate us.length false)=us.map (·,false):=by
 induction us with
 |nil=>rfl
 |cons x us ih=>simp only[List.length_cons,List.replicate_succ,List.zip_cons_cons,ih,List.map_cons]
theorem q20 (m:MInv P C ω w0 C0 hp w)(e:EnvRel C ω w w0.heap.size env tmps){b r off:Nat}{cs:List (qa×Bool)}{us:List qa}{news:List Value}(hb:hp[b]?=some (.cells cs))(hr:C.β b=some r)(hus:RepL C us news)(h1:∀v∈news,v.oneCell'=true)(hl:off+us.length≤cs.length):
  ∃vs t,w.heap[r]?=some (.cells vs t (0,0))∧off+news.length≤vs.size ∧
   MInv P C ω w0 C0 (hp.set b (.cells (cs.take off++us.map (·,false)++cs.drop (off+us.length)))) (w.setRow r (vs.toList.take off++news++vs.toList.drop (off+news.length)).toArray) ∧
   EnvRel C ω (w.setRow r (vs.toList.take off++news++vs.toList.drop (off+news.length)).toArray) w0.heap.size env tmps:=by
 obtain⟨vs,t,hg,hsz,hold⟩:=m.box b _ r hb hr
 have hu:=qe4 hg (vs.toList.take off++news++vs.toList.drop (off+news.length)).toArray
 have hnl:=hus.length
 refine⟨vs,t,hg,by omega,m.updBox hu.upd hr _ (fun b' j y v _ h=>h) ?_,e.updβ hu.upd hr⟩
 rw[←ja7]
 refine BoxRel.store (by simp) hus h1 hl hsz (fun j c hc=>?_) (fun j u v _ _ hf=>?_) (setRow_heap w r vs _ t (0,0) hg)
 ·obtain⟨v,a1,a2,a3,a4⟩:=hold j c hc
  exact⟨v,a1,a2,a3,fun h=>(a4 h).updβ hu.upd hr⟩
 ·rw[List.getElem?_replicate]at hf;split at hf<;>cases hf
theorem qla {t te:TypeId}{n r off:Nat}{v:Value}{vs:Array Value}(hn:yh P t=some n)(hl:v.cells.toList.length=n)(hg:w.heap[r]?=some (.cells vs te (0,0)))(hfit:off+v.cells.toList.length≤vs.size)(h1:∀u∈v.cells.toList,u.oneCell'=true):
  (storeVar t ⟨r,off,none⟩ v).run P w=.ok () (w.setRow r (vs.toList.take off++v.cells.toList++vs.toList.drop (off+v.cells.toList.length)).toArray):=by
 have hst:=run_storeCells_at (P:=P) r off te v.cells.toList 0 vs w hg (by simpa using hfit) h1
 simp only[Nat.add_zero]at hst
 have:¬(v.cells.size≠n):=by simp at hl;simpa using hl
 simp only[storeVar,Sem.run_bind,qah hn,Result.andThen_ok,this,if_false,Sem.run_ite,hst]
theorem jc2 (m:MInv P C ω w0 C0 hp w)(e:EnvRel C ω w w0.heap.size env a.tmps){t:TypeId}{x y:Operand}{x' y':qh}{n b q:Nat}{v:qa}{cs cs':List (qa×Bool)}{h':j8}(ho:o.op=.store t x y)(hn:yh P t=some n)
  (h1:zq x=some x') (h2:zq y=some y') (e1:zc env x'=some (.ptr b q)) (e2:zc env y'=some v) (hbc:yn hp b=some cs) (hvl:v.flat.length=n) (hst:yj cs q v.flat=some cs') (hset:ym hp b (.cells cs')=some h'):
  ∃w',(execOp a.eval o).run P w=.ok .skip w'∧kg P C0 w0 C a.tmps d env ⟨.undef,false,none,h'⟩ undef w':=by
 obtain⟨r,hr,hq⟩:=(zt e.rep h1 e1).ptr_inv
 unfold yj at hst
 cases hb:(Nat.ble (q+v.flat.length) cs.length&&v.flat.all ze)with
 |false=>simp[hb]at hst
 |true=>
  simp only[hb,cT,Option.some.injEq]at hst
  simp only[Bool.and_eq_true]at hb
  subst hst
  have ry:=qer (zt e.rep h2 e2) hb.2
  have hone:=qc8 ry (by simpa using hb.2)
  obtain⟨vs,te,hg,hfit,m',e'⟩:=q20 m e (qb2 hbc) hr ry hone (Nat.le_of_ble_eq_true hb.1)
  obtain rfl:=qes hset
  have hrun:=qla (P:=P) hn (by rw[ry.length,hvl]) hg hfit hone
  exact⟨_,by simp[execOp,ho,Instr.storeAt,hq,Instr.sureAddr,hrun],C,ω,Ctx.le_refl C,m',e',.undef,by simp⟩
theorem q2o (m:MInv P C ω w0 C0 hp w)(e:EnvRel C ω w w0.heap.size env a.tmps){t:TypeId}{x y:Operand}{x' y':qh}{b q s:Nat}{v:qa}{cs:List (qa×Bool)}{h':j8}(ho:o.op=.store t x y)(hn:yh P t=some 1)
  (h1:zq x=some x') (h2:zq y=some y') (e1:zc env x'=some (.ptr b q)) (e2:zc env y'=some v) (hbc:yn hp b=some cs) (hv:v.isList=true) (hlt:q<cs.length) (hown:kh env y'=some s) (hset:ym hp b (.cells (cs.set q (v,true)))=some h'):
  ∃w',(execOp a.eval o).run P w=.ok .skip w'∧kg P C0 w0 C a.tmps d env ⟨.undef,false,some s,h'⟩ undef w':=by
 obtain⟨r,hr,hq⟩:=(zt e.rep h1 e1).ptr_inv
 have ry:=zt e.rep h2 e2
 obtain⟨hy',v0,hl⟩:=qjc hown
 have hv0:v0=v:=by subst hy';simp only[zc,hl]at e2;exact Option.some.inj e2
 subst hv0
 have hflat:v0.flat=[v0]:=by cases v0<;>simp[qa.isList]at hv<;>rfl
 have hsc:ze v0=true:=by cases v0<;>simp[qa.isList]at hv<;>rfl
 have rf:=qer ry (by rw[hflat];simpa using hsc)
 rw[hflat]at rf
 have hone:=qc8 rf (by simpa using hsc)
 have hcell:(a.eval y).cells.toList=[a.eval y]:=by
  have:=qmn ry hsc
  cases hh:a.eval y<;>simp[hh,Value.oneCell']at this<;>rfl
 obtain⟨cv,hc1,hc2,hc3⟩:=e s _ hl
 have hcv:a.eval y=cv:=by
  have hye:zq y=some (.tmp s):=by rw[h2,hy']
  cases y with
  |tmp t'=>simp only[zq]at hye;cases hye;simp[Act.eval,Array.getD_eq_getD_getElem?,hc1]
  |const u=>simp only[zq]at hye;split at hye<;>cases hye
  |func f=>simp[zq]at hye
  |global g=>simp[zq]at hye
 obtain⟨vs,te,hg,hsz,hold⟩:=m.box b _ r (qb2 hbc) hr
 have hu:=qe4 hg (vs.toList.take q++[a.eval y]++vs.toList.drop (q+1)).toArray
 have hl1:(a.eval y).cells.toList.length=1:=by rw[hcell];rfl
 have hrun:=qla (P:=P) (t:=t) (off:=q) hn hl1 hg (by omega) hone
 rw[hl1,hcell]at hrun
 obtain rfl:=qes hset
 have hown':=hc3 rfl
 have hkeep:∀ℓ z u,ℓ≠.slot s→OwnV C ω w w0.heap.size ℓ z u→OwnV C (qe7 ω v0 cv (.cell b q)) w w0.heap.size ℓ z u:=fun ℓ z u hℓ hz=>qco hown' hℓ hz
 have hnew:OwnV C (qe7 ω v0 cv (.cell b q)) w w0.heap.size (.cell b q) v0 cv:=qiq hown'
 have hcs:cs.take q++[(v0,true)]++cs.drop (q+1)=cs.set q (v0,true):=by
  rw[List.set_eq_take_append_cons_drop,if_pos hlt];simp
 refine⟨w.setRow r (vs.toList.take q++[a.eval y]++vs.toList.drop (q+1)).toArray,by simp only[execOp,ho,Instr.storeAt,Sem.run_bind,hq,Instr.sureAddr,Sem.run_pure,Result.andThen_ok,hrun],C,qe7 ω v0 cv (.cell b q),Ctx.le_refl C,?_,?_,.undef,by simp⟩
 ·refine m.updBox hu.upd hr _ (fun b' j z u hb' hz=>hkeep _ z u (by simp) hz) ?_
  rw[←hcs]
  have hz:[(v0,true)]=[v0].zip [true]:=rfl
  rw[hz]
  refine BoxRel.store (us:=[v0]) (fl:=[true]) (news:=[a.eval y]) rfl (by rw[←hcell];exact rf) (by rw[←hcell];exact hone) (by simp;omega) hsz (fun j c hc=>?_) (fun j u v hu1 hv1 _=>?_) (setRow_heap w r vs _ te (0,0) hg)
  ·obtain⟨v,a1,a2,a3,a4⟩:=hold j c hc
   exact⟨v,a1,a2,a3,fun h=>(hkeep _ _ _ (by simp) (a4 h)).updβ hu.upd hr⟩
  ·cases j with
   |zero=>
    simp at hu1 hv1
    subst hu1;subst hv1
    have h3:=hnew.updβ hu.upd hr
    exact hcv▸h3
   |succ j=>simp at hu1
 ·intro t' x' hx'
  by_cases hts:t'=s
  ·subst hts
   simp only[k9,hl,ye,Nat.beq_refl,cT]at hx'
   cases hx'
   exact⟨cv,hc1,hc2,by simp⟩
  ·have hx2:ye t' env=some x':=by
    simp only[k9,hl,ye]at hx'
    have:Nat.beq s t'=false:=by
     cases hb:Nat.beq s t' with
     |false=>rfl
     |true=>exact absurd (Nat.eq_of_beq_eq_true hb).symm hts
    rw[this]at hx'
    exact hx'
   obtain⟨u,k1,k2,k3⟩:=e t' x' hx2
   exact⟨u,k1,k2,fun h=>(hkeep _ _ _ (by simp[hts]) (k3 h)).updβ hu.upd hr⟩
end
section
variable {P:Program}{C C0:Ctx}{ω:Nat→Option Loc}{w w' w0:World}{hp:j8}{env:Env}{a:Act}{o:Oper}{tmps:Array Value}{d:Loc}
theorem q0u {s:Nat}{v:qa}{ow:Bool}(hl:ye s env=some (v,ow)){t:Nat}{x:qa×Bool}(hx:ye t (k9 env (some s))=some x):(t=s∧x=(v,false))∨(t≠s∧ye t env=some x):=by
 simp only[k9,hl,ye]at hx
 cases hb:Nat.beq s t with
 |true=>
  simp only[hb,cT,Option.some.injEq]at hx
  exact .inl ⟨(Nat.eq_of_beq_eq_true hb).symm,hx.symm⟩
 |false=>
  simp only[hb,cond_false]at hx
  refine .inr ⟨fun h=>?_,hx⟩
  subst h
  simp at hb
theorem jdh (m:MInv P C ω w0 C0 hp w)(e:EnvRel C ω w w0.heap.size env a.tmps){s:Nat}{v:qa}{ow:Bool}(ho:o.op=.move (.tmp s)∨o.op=.assign (.tmp s))(hl:ye s env=some (v,ow)):
  ∃u w',(execOp a.eval o).run P w=.ok (.value u) w'∧kg P C0 w0 C a.tmps d env ⟨v,ow,some s,hp⟩ u w':=by
 obtain⟨cv,h1,h2,h3⟩:=e s _ hl
 have hev:a.eval (.tmp s)=cv:=by simp[Act.eval,Array.getD_eq_getD_getElem?,h1]
 have hrun:(execOp a.eval o).run P w=.ok (.value cv) w:=by rcases ho with ho|ho<;>simp[execOp,ho,hev]
 refine⟨cv,w,hrun,?_⟩
 by_cases hk:ow=true
 ·subst hk
  have hown:=h3 rfl
  refine⟨C,qe7 ω v cv d,Ctx.le_refl C,?_,?_,h2,fun _=>qiq hown⟩
  ·exact { m with box:=fun b x r hx hb=>(m.box b x r hx hb).mono (Ctx.le_refl C) fun j y u hz=>qco hown (by simp) hz }
  ·intro t x hx
   rcases q0u hl hx with⟨rfl,rfl⟩|⟨hne,hx'⟩
   ·exact⟨cv,h1,h2,by simp⟩
   ·obtain⟨u,k1,k2,k3⟩:=e t x hx'
    exact⟨u,k1,k2,fun h=>qco hown (by simpa using hne) (k3 h)⟩
 ·refine⟨C,ω,Ctx.le_refl C,m,e.strip _,h2,fun h=>absurd h hk⟩
theorem q11 (m:MInv P C ω w0 C0 hp w)(e:EnvRel C ω w w0.heap.size env a.tmps){t:TypeId}{x:Operand}{x':qh}{b q:Nat}{v:qa}{ow:Bool}{cs:List (qa×Bool)}{h':j8}(ho:o.op=.load t x)(hag:qak P t=some false)
  (h1:zq x=some x') (e1:zc env x'=some (.ptr b q)) (hbc:yn hp b=some cs) (hc:cs[q]?=some (v,ow)) (hset:ym hp b (.cells (cs.set q (v,false)))=some h'):
  ∃u w',(execOp a.eval o).run P w=.ok (.value u) w'∧kg P C0 w0 C a.tmps d env ⟨v,ow,none,h'⟩ u w':=by
 obtain⟨r,hr,hq⟩:=(zt e.rep h1 e1).ptr_inv
 obtain⟨vs,te,hg,hsz,hold⟩:=m.box b _ r (qb2 hbc) hr
 obtain⟨cv,k1,k2,k3,k4⟩:=hold q _ hc
 obtain rfl:=qes hset
 have hcell:w.cell? ⟨r,q,none⟩=some cv:=by
  simp only[World.cell?,hg]
  simpa using k1
 have hrun:(execOp a.eval o).run P w=.ok (.value cv) w:=by
  simp[execOp,ho,hq,Instr.loadAt,Instr.sureAddr,qge hag hcell]
 have hu:jk w w r:=⟨rfl,fun _ _=>rfl,fun c t fr h=>by rw[hg]at h;cases h;rfl,rfl,rfl⟩
 have hbox:∀ω':Nat→Option Loc,(∀j c u,j≠q→OwnV C ω w w0.heap.size (.cell b j) c u→OwnV C ω' w w0.heap.size (.cell b j) c u)→BoxRel P C ω' w w0.heap.size b r (.cells (cs.set q (v,false))):=by
  intro ω' hk
  refine⟨vs,te,hg,by simpa using hsz,fun j c hj=>?_⟩
  rw[List.getElem?_set]at hj
  split at hj
  ·rename_i hqj
   subst hqj
   split at hj
   ·cases hj;exact⟨cv,k1,k2,k3,by simp⟩
   ·cases hj
  ·rename_i hqj
   obtain⟨u,a1,a2,a3,a4⟩:=hold j c hj
   exact⟨u,a1,a2,a3,fun h=>hk _ _ _ (Ne.symm hqj) (a4 h)⟩
 refine⟨cv,w,hrun,?_⟩
 by_cases hk:ow=true
 ·subst hk
  have hown:=k4 rfl
  refine⟨C,qe7 ω v cv d,Ctx.le_refl C,?_,?_,k3,fun _=>qiq hown⟩
  ·exact m.updBox hu hr _ (fun b' j y u hb' hz=>qco hown (by simp[hb']) hz) (hbox _ fun j c u hj hz=>qco hown (by simp[hj]) hz)
  ·exact fun t x hx=>let ⟨u,k1,k2,k3⟩:=e t x hx; ⟨u,k1,k2,fun h=>qco hown (by simp) (k3 h)⟩
 ·refine⟨C,ω,Ctx.le_refl C,m.updBox hu hr _ (fun _ _ _ _ _ h=>h) (hbox _ fun _ _ _ _ h=>h),e,k3,fun h=>absurd h hk⟩
end
end Go.Abs
