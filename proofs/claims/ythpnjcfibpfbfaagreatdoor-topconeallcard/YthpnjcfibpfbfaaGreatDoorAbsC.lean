/- Operations that make a new slice. -/
import Derived.Test.YthpnjcfibpfbfaaGreatDoorAbsA
set_option linter.unusedVariables false
set_option linter.unusedSimpArgs false
namespace Go.Abs
section
variable {P:Program}{C C0:Ctx}{ω:Nat→Option Loc}{w w0:World}{hp:qi}{env:Env}{a:Act}{o:Oper}{tmps:Array Value}{d:Loc}
theorem EnvRel.strip {B}(e:EnvRel C ω w B env tmps)(s:Option Nat):EnvRel C ω w B (jt env s) tmps:=by
 cases s with
 |none=>exact e
 |some s=>
  simp only[jt]
  split
  ·rename_i v o hl
   intro t x hx
   simp only[qv]at hx
   cases hb:Nat.beq s t with
   |false=>rw[hb]at hx;simp at hx;exact e t x hx
   |true=>
    rw[hb]at hx
    simp at hx
    subst hx
    obtain rfl:=Nat.eq_of_beq_eq_true hb
    obtain⟨u,h1,h2,_⟩:=e s _ hl
    exact⟨u,h1,h2,by simp⟩
  ·exact e
theorem qo3 (m:MInv P C ω w0 C0 hp w)(e:EnvRel C ω w w0.heap.size env tmps){x v}(h:Rep C x v):jk P C0 w0 C tmps d env ⟨x,false,none,hp⟩ v w:=
 ⟨C,ω,Ctx.le_refl C,m,e,h,by simp⟩
theorem qip (m:MInv P C ω w0 C0 hp w)(e:EnvRel C ω w w0.heap.size env tmps)(cells:Array Value)(t:TypeId)(xs:List AVal)(sz cap:Nat)(vs:List Value)(hr:RepL C (xs.flatMap AVal.flat) vs)
  (hv:∀(j:Nat) v,vs[j]?=some v→cells[j]?=some v) (h1:∀v∈vs,v.oneCell'=true) (hs:∀x∈xs,x.flat.length=sz) (hcap:xs.length≤cap) (hfit:cap*sz≤cells.size) (s:Option Nat):
  jk P C0 w0 C tmps d env ⟨.list false sz xs,true,s,hp⟩ (.slice (some ⟨w.heap.size,0,none⟩) xs.length cap) (w.alloc (.cells cells t)):=by
 have hn:∀o,C.K w.heap.size o=none:=m.K_new _ (Nat.le_refl _)
 have hx:Ext w (w.alloc (.cells cells t)):=Ext.alloc w _ (fun c t fr h=>by cases h;rfl)
 have m1:=(m.newRow cells t vs hv h1)
 have hnω:∀ℓ x v,OwnV C ω w w0.heap.size ℓ x v→OwnV (C.put w.heap.size 0 vs) (own1 ω w.heap.size d) (w.alloc (.cells cells t)) w0.heap.size ℓ x v:=fun ℓ x v ho=>((ho.fresh (Nat.le_refl _)).put vs (.inl (Nat.le_refl _))).ext hx
 have hle:=Ctx.put_le (C:=C) (off:=0) vs (fun o _=>hn o)
 have hcells:=Ctx.put_cells (C:=C) (off:=0) (fun o _=>hn o) hr
 have hl:vs.length=xs.length*sz:=by rw[hr.length,z6 xs hs]
 refine⟨C.put w.heap.size 0 vs,own1 ω w.heap.size d,hle,?_,?_,?_,?_⟩
 ·exact { m1 with box:=fun b x r hx' hb=>((m.box b x r hx' hb).mono hle fun j y v ho=>(ho.fresh (Nat.le_refl _)).put vs (.inl (Nat.le_refl _))).ext hx }
 ·refine EnvRel.strip ?_ s
  exact fun t x hx=>let ⟨v,h1,h2,h3⟩:=e t x hx; ⟨v,h1,RepI.mono hle h2,fun h=>hnω _ _ _ (h3 h)⟩
 ·exact .list _ _ _ _ _ hcap (RepRow.of_cells hcells hs)
 ·intro _
  refine⟨by simp[own1],.inl m.size,?_,rfl,rfl,⟨cells,t,by rw[qat,if_pos rfl],by simpa using hfit,Strict.sized hs⟩,?_⟩
  ·intro b hb
   have:=(m.lt b _ hb).1
   simp at this
  ·intro o ho
   simp only[Ctx.put]
   rw[if_neg (by simp at ho;omega)]
   exact hn o
theorem qbb {zs:List Value}{sz}(hz:zs.length=sz)(hs:0<sz):∀(n:Nat),(List.range (n*sz)).map (fun i=>zs.toArray[i % zs.toArray.size]!)=(List.replicate n zs).flatten
 |0=>by simp
 |n+1=>by
  rw[Nat.succ_mul,List.range_add,List.map_append,qbb hz hs n,List.replicate_succ',List.flatten_append]
  congr 1
  simp only[List.map_map,List.flatten_cons,List.flatten_nil,List.append_nil]
  apply List.ext_getElem?
  intro j
  rw[List.getElem?_map]
  by_cases hj:j<sz
  ·rw[List.getElem?_range hj]
   simp only[Option.map_some,Function.comp,List.size_toArray,hz]
   rw[Nat.mul_add_mod_self_right,Nat.mod_eq_of_lt hj]
   rw[List.getElem?_eq_getElem (by omega),getElem!_pos _ _ (by simpa[hz]using hj)]
   simp
  ·rw[List.getElem?_eq_none (by simpa using hj),List.getElem?_eq_none (by omega)]
   rfl
theorem RepL.replicate {zs vs}(h:RepL C zs vs):∀n:Nat,RepL C (List.replicate n zs).flatten (List.replicate n vs).flatten
 |0=>.nil
 |n+1=>by
  rw[List.replicate_succ,List.replicate_succ,List.flatten_cons,List.flatten_cons]
  exact RepL.append h (RepL.replicate h n)
def qaf (sz:Nat)(zero:List AVal):AVal:=bif Nat.beq sz 1 then zero.headD .undef else .agg zero
theorem qdv {sz zero}(hz:zero.length=sz)(hs:∀z∈zero,z.isAgg=false):(qaf sz zero).flat=zero:=by
 unfold qaf
 cases hb:Nat.beq sz 1 with
 |false=>rfl
 |true=>
  obtain rfl:=Nat.eq_of_beq_eq_true hb
  obtain⟨z,rfl⟩:=List.length_eq_one_iff.1 hz
  exact kj (hs z (by simp))
theorem qf4 {sz zero}(hz:zero.length=sz)(hs:∀z∈zero,z.isAgg=false)(n:Nat):(List.replicate n (qaf sz zero)).flatMap AVal.flat=(List.replicate n zero).flatten:=by
 induction n with
 |zero=>rfl
 |succ n ih=>rw[List.replicate_succ,List.flatMap_cons,qdv hz hs,ih,List.replicate_succ,List.flatten_cons]
theorem qmk {v x}(h:qf6 v=some x):qf x=true∧v.oneCell'=true:=by
 unfold qf6 at h
 split at h<;>first|cases h|skip
 all_goals exact⟨rfl,rfl⟩
theorem qfx:∀ {vs:List Value} {xs:List AVal},qbp vs=some xs→(∀x∈xs,qf x=true)∧∀v∈vs,v.oneCell'=true
 | [],xs,h=>by simp[qbp]at h;subst h;simp
 |v::vs,xs,h=>by
  simp only[qbp]at h
  split at h
  ·rename_i x hx
   split at h
   ·rename_i ys hys
    cases h
    obtain⟨h1,h2⟩:=qmk hx
    obtain⟨h3,h4⟩:=qfx hys
    exact⟨by simpa using⟨h1,h3⟩,by simpa using⟨h2,h4⟩⟩
   ·cases h
  ·cases h
theorem qga {x}(h:qf x=true):x.isAgg=false:=by cases x<;>simp[qf,AVal.isAgg]at *
theorem yh {t:TypeId}{z}(h:zd P t=some z):(∀x∈z,qf x=true)∧∃v,(∀w,(zeroValue t).run P w=.ok v w)∧RepL C z v.cells.toList∧∀u∈v.cells.toList,u.oneCell'=true:=by
 unfold zd at h
 split at h
 ·rename_i i hi
  split at h
  ·rename_i v hv
   obtain⟨h1,h2⟩:=qfx h
   exact⟨h1,v,fun w=>by simp[zeroValue,typeInfo,hi,hv],qdf C h,h2⟩
  ·cases h
 ·cases h
theorem qfv {x v}(h:Rep C x v)(hs:qf x=true):v.oneCell'=true:=by
 cases h<;>first|rfl|(simp[qf]at hs)
theorem ko {xs}:∀ {vs:List Value},RepL C xs vs→(∀x∈xs,qf x=true)→∀v∈vs,v.oneCell'=true:=by
 induction xs with
 |nil=>intro vs h _ v hv;cases h;cases hv
 |cons x xs ih=>
  intro vs h hs v hv
  cases h with
  |cons _ _ u us hx h=>
   rcases List.mem_cons.1 hv with rfl|hv
   ·exact qfv hx (hs x (by simp))
   ·exact ih h (fun y hy=>hs y (by simp[hy])) v hv
theorem ql3:∀ (qs:List (Nat×List AVal)) (xs ys:List AVal),kg xs qs=some ys→(∀x∈xs,qf x=true)→(∀q∈qs,∀x∈q.2,qf x=true)→∀y∈ys,qf y=true
 | [],xs,ys,h,hx,_=>by simp[kg]at h;subst h;exact hx
 |(off,vs)::qs,xs,ys,h,hx,hq=>by
  simp only[kg]at h
  cases hb:Nat.ble (off+vs.length) xs.length with
  |false=>simp[hb]at h
  |true=>
   simp only[hb,cond_true]at h
   refine ql3 qs _ ys h ?_ (fun q h=>hq q (by simp[h]))
   intro x h
   simp only[List.mem_append]at h
   rcases h with(h|h)|h
   ·exact hx x (List.mem_of_mem_take h)
   ·exact hq (off,vs) (by simp) x h
   ·exact hx x (List.mem_of_mem_drop h)
theorem qeo {sz}:∀(ps:List (Nat×qz)) (qs:List (Nat×AVal)),jy env sz ps=some qs→∀q∈qs,∀x∈q.2.flat,qf x=true
 | [],qs,h=>by simp[jy]at h;subst h;simp
 |(i,x)::ps,qs,h=>by
  simp only[jy]at h
  split at h
  ·rename_i v hv1
   cases hb:(Nat.beq v.flat.length sz&&v.flat.all qf)with
   |false=>simp[hb]at h
   |true=>
    simp only[hb,cond_true]at h
    simp only[Bool.and_eq_true,List.all_eq_true]at hb
    split at h
    ·rename_i r hr
     cases h
     intro q hq
     rcases List.mem_cons.1 hq with rfl|hq
     ·exact hb.2
     ·exact qeo ps r hr q hq
    ·cases h
  ·cases h
theorem qf8 (e:EnvRel C ω w w0.heap.size env a.tmps){t el:TypeId}{ps len sz z ps' qs xs}
  (ho:o.op=.buildSlice t len ps) (ht:P.underlying t=some (.slice el)) (hn:qy P el=some sz) (hz:zd P el=some z) (hlen:sz*len≤65536) (h0:0<sz) (hzl:z.length=sz)
  (hps:qdm ps.toList=some ps') (hq:jy env sz ps'=some qs) (hx:qaa (List.replicate len (qaf sz z)) qs=some xs):
  ∃ds,(execOp a.eval o).run P w=.ok (.value (.slice (some ⟨w.heap.size,0,none⟩) len len)) (w.alloc (.cells ds el))∧RepL C (xs.flatMap AVal.flat) ds.toList∧(∀v∈ds.toList,v.oneCell'=true)∧(∀x∈xs,x.flat.length=sz)∧xs.length=len∧len*sz≤ds.size:=by
 obtain⟨hzs,zv,hzr,hzrep,hz1⟩:=yh (C:=C) hz
 have hna:∀x∈z,x.isAgg=false:=fun x h=>qga (hzs x h)
 have hzsz:zv.cells.toList.length=sz:=by rw[hzrep.length,hzl]
 have hinit:((Array.range (len*sz)).map (fun i=>zv.cells[i % zv.cells.size]!)).toList=(List.replicate len zv.cells.toList).flatten:=by
  have:=qbb hzsz h0 len
  simpa using this
 obtain⟨hpr,hqs⟩:=qg3 e.rep ps.toList ps' qs hps hq
 obtain⟨hf,hxs,hxl⟩:=qjs (sz:=sz) qs _ xs hx (by
  intro x h
  obtain⟨_,rfl⟩:=List.mem_replicate.1 h
  rw[qdv hzl hna,hzl]) hqs
 rw[qf4 hzl hna]at hf
 obtain⟨ds,hd,hdr⟩:=qe6 _ _ _ _ ((Array.range (len*sz)).map (fun i=>zv.cells[i % zv.cells.size]!)) (by rw[hinit];exact hzrep.replicate len) hf hpr
 have hxlen:xs.length=len:=by simpa using hxl
 have hsc:∀y∈xs.flatMap AVal.flat,qf y=true:=ql3 _ _ _ hf (by
  intro x h
  rw[List.mem_flatten]at h
  obtain⟨l,h1,h2⟩:=h
  obtain⟨_,rfl⟩:=List.mem_replicate.1 h1
  exact hzs x h2) (by
  intro q hq1 x hx1
  obtain⟨p,hp1,rfl⟩:=List.mem_map.1 hq1
  exact qeo ps' qs hq p hp1 x hx1)
 have hdl:ds.toList.length=len*sz:=by rw[hdr.length,z6 xs hxs,hxlen]
 refine⟨ds,?_,hdr,ko hdr hsc,hxs,hxlen,by simp at hdl;omega⟩
 ·have hpa:(ps.map fun(x:Nat×Operand)=>(x.1,a.eval x.2)).toList=ps.toList.map fun x=>(x.1,a.eval x.2):=by simp
  have hle:¬(16777216<len*sz):=by rw[Nat.mul_comm];omega
  by_cases hl0:len=0
  ·subst hl0
   have hr:Array.range 0=#[]:=rfl
   rw[Nat.zero_mul,hr,Array.map_empty]at hd
   simp only[execOp,ho,Instr.buildSlice,Sem.run_bind,run_underlying ht,Result.andThen_ok,j9 hn,hpa]
   simp[hr,hd,newRow]
  ·have hne:¬(len*sz=0):=by
    intro h
    rcases Nat.mul_eq_zero.1 h with h|h<;>omega
   simp only[execOp,ho,Instr.buildSlice,Sem.run_bind,run_underlying ht,Result.andThen_ok,j9 hn,hpa]
   simp[hle,hne,hzr,hd,newRow]
theorem qlm (m:MInv P C ω w0 C0 hp w)(e:EnvRel C ω w w0.heap.size env a.tmps){t el:TypeId}{ps len sz z ps' qs xs}
  (ho:o.op=.buildSlice t len ps) (ht:P.underlying t=some (.slice el)) (hn:qy P el=some sz) (hz:zd P el=some z) (hlen:sz*len≤65536) (h0:0<sz) (hzl:z.length=sz)
  (hps:qdm ps.toList=some ps') (hq:jy env sz ps'=some qs) (hx:qaa (List.replicate len (qaf sz z)) qs=some xs):
  ∃v w',(execOp a.eval o).run P w=.ok (.value v) w'∧jk P C0 w0 C a.tmps d env ⟨.list false sz xs,true,none,hp⟩ v w':=by
 obtain⟨ds,hrun,hdr,h1,hxs,hxlen,hfit⟩:=qf8 (C:=C) (ω:=ω) (w:=w) (w0:=w0) e ho ht hn hz hlen h0 hzl hps hq hx
 refine⟨_,_,hrun,?_⟩
 have hcore:=qip (d:=d) (tmps:=a.tmps) m e ds el xs sz len ds.toList hdr (by intro j v h;simpa using h) h1 hxs (by omega) hfit none
 rw[hxlen]at hcore
 exact hcore
theorem qp5 (m:MInv P C ω w0 C0 hp w)(e:EnvRel C ω w w0.heap.size env a.tmps){t el:TypeId}{x y:Operand}{x' y':qz}{n sz b:Nat}{z}
  (ho:o.op=.makeSlice t x y) (ht:P.underlying t=some (.slice el)) (hn:qy P el=some sz) (hb:kz P el=some b) (hz:zd P el=some z) (h0:0<sz) (hzl:z.length=sz)
  (h1:ql x=some x') (h2:ql y=some y') (e1:qe env x'=some (.int .i64 (n:Int))) (e2:qe env y'=some (.int .i64 (n:Int))) (hle:n≤1073741824) (hbl:b≤4096):
  ∃v w',(execOp a.eval o).run P w=.ok (.value v) w'∧jk P C0 w0 C a.tmps d env ⟨.list false sz (List.replicate n (qaf sz z)),true,none,hp⟩ v w':=by
 obtain⟨hzs,zv,hzr,hzrep,hz1⟩:=yh (C:=C) hz
 have hna:∀x∈z,x.isAgg=false:=fun x h=>qga (hzs x h)
 have hzsz:zv.cells.toList.length=sz:=by rw[hzrep.length,hzl]
 have hinit:((Array.range (n*sz)).map (fun i=>zv.cells[i % zv.cells.size]!)).toList=(List.replicate n zv.cells.toList).flatten:=by
  have:=qbb hzsz h0 n
  simpa using this
 have r1:=(qn e.rep h1 e1).int_inv
 have r2:=(qn e.rep h2 e2).int_inv
 have hxs:∀x∈List.replicate n (qaf sz z),x.flat.length=sz:=by
  intro x h
  obtain⟨_,rfl⟩:=List.mem_replicate.1 h
  rw[qdv hzl hna,hzl]
 have hrep:RepL C ((List.replicate n (qaf sz z)).flatMap AVal.flat) ((Array.range (n*sz)).map (fun i=>zv.cells[i % zv.cells.size]!)).toList:=by
  rw[qf4 hzl hna,hinit];exact hzrep.replicate n
 obtain⟨i,hi,hib⟩:∃i,P.info? el=some i∧i.bytes=b:=by
  unfold kz at hb
  cases hi:P.info? el with
  |none=>simp[hi]at hb
  |some i=>exact⟨i,rfl,by simpa[hi]using hb⟩
 have hsi:i.size=sz:=by
  unfold qy at hn
  rw[hi]at hn
  simpa using hn
 have hwrap:IntKind.i64.wrap (n:Int)=n:=by
  rw[←qax];unfold qa
  have:qbg .i64 (n:Int)=true:=by simp[qbg];exact Nat.le_trans hle (by decide)
  rw[this];rfl
 have hbn:b*n≤281474976710656:=Nat.le_trans (Nat.mul_le_mul hbl hle) (by decide)
 have hcore:=qip (d:=d) (tmps:=a.tmps) m e ((Array.range (n*sz)).map (fun i=>zv.cells[i % zv.cells.size]!)) el (List.replicate n (qaf sz z)) sz n _ hrep (by intro j v h;rw[Array.getElem?_toList]at h;exact h) (by
   rw[hinit]
   intro v hv
   rw[List.mem_flatten]at hv
   obtain⟨l,q1,q2⟩:=hv
   obtain⟨_,rfl⟩:=List.mem_replicate.1 q1
   exact hz1 v q2) hxs (by simp) (by simp) none
 rw[List.length_replicate]at hcore
 refine⟨_,_,?_,hcore⟩
 have c1:¬((b:Int)*(n:Int) > 2^48):=by
  have h1:((b*n:Nat):Int)≤281474976710656:=Int.ofNat_le.2 hbn
  rw[Int.natCast_mul]at h1
  have h2:(2:Int)^48=281474976710656:=by decide
  rw[h2];omega
 have c2:¬((n:Int)<0):=by omega
 have hr:Array.range 0=#[]:=rfl
 simp only[execOp,ho,Instr.makeSlice,Sem.run_bind,run_underlying ht,r1,r2,asInt,asIntOf,Sem.run_pure,Result.andThen_ok,typeInfo,run_program,hi,hib,hwrap,c2,c1,decide_false,Bool.or_false,Bool.false_eq_true,if_false,Int.lt_irrefl,gt_iff_lt,run_askRoom,Int.toNat_natCast,j9 hn,newRow]
 by_cases hn0:n=0
 ·subst hn0
  simp[hr]
 ·have hne:¬(n*sz=0):=by
   intro h
   rcases Nat.mul_eq_zero.1 h with h|h<;>omega
  simp[hne,hzr]
end
structure RowUpd (w w':World)(r:Nat)(cs:Array Value):Prop where
 at_:∃t,w'.heap[r]?=some (.cells cs t (0,0))
 size:w'.heap.size=w.heap.size
 other:∀k,k≠r→w'.heap[k]?=w.heap[k]?
 os:w'.os=w.os
 output:w'.output=w.output
theorem qa5 {w r old}{t:TypeId}(h:w.heap[r]?=some (.cells old t (0,0)))(cs:Array Value):RowUpd w (w.setRow r cs) r cs:=
 ⟨⟨t,setRow_heap w r old cs t (0,0) h⟩,setRow_size w r cs,fun k hk=>setRow_other w r k cs hk,rfl,rfl⟩
section
variable {P:Program}{C C0:Ctx}{ω:Nat→Option Loc}{w w' w0:World}{hp:qi}{env:Env}{a:Act}{o:Oper}{tmps:Array Value}{d:Loc}
theorem OwnV.upd {B r cs ℓ x v}(hu:RowUpd w w' r cs)(hr:ω r≠some ℓ)(ho:OwnV C ω w B ℓ x v):OwnV C ω w' B ℓ x v:=by
 unfold OwnV at *
 split at ho
 ·rename_i a len cap
  obtain⟨h1,h2,h3,h4,h8,⟨cells,elem,h5,h6⟩,h7⟩:=ho
  refine⟨h1,h2,h3,h4,h8,⟨cells,elem,?_,h6⟩,h7⟩
  rw[hu.other _ (fun h=>hr (h▸h1))]
  exact h5
 ·rename_i a
  obtain⟨h1,h2,h3,h4,h8,⟨cells,elem,h5,h6⟩,h7⟩:=ho
  refine⟨h1,h2,h3,h4,h8,⟨cells,elem,?_,h6⟩,h7⟩
  rw[hu.other _ (fun h=>hr (h▸h1))]
  exact h5
 ·trivial
theorem BoxRel.upd {B b r r' cs x}(hu:RowUpd w w' r cs)(hne:r'≠r)(hr:∀j,ω r≠some (.cell b j))(hb:BoxRel P C ω w B b r' x):BoxRel P C ω w' B b r' x:=by
 have hg:=hu.other r' hne
 cases x with
 |hole=>exact hb
 |cells cs'=>
  obtain⟨vs,elem,h1,h2,h3⟩:=hb
  exact⟨vs,elem,by rw[hg];exact h1,h2,fun j c hc=>let ⟨v,a,q,b,d⟩:=h3 j c hc; ⟨v,a,q,b,fun e=>(d e).upd hu (hr j)⟩⟩
 |map es=>obtain⟨ents,clock,h1,h2⟩:=hb;exact⟨ents,clock,by rw[hg];exact h1,h2⟩
 |iter s pos=>show w'.heap[r']?=_;rw[hg];exact hb
 |loop l=>obtain⟨lp,h1,h2⟩:=hb;exact⟨lp,by rw[hg];exact h1,h2⟩
 |bld t e l=>obtain⟨p,v,h1,h2,h3,h4⟩:=hb;exact⟨p,v,by rw[hg];exact h1,h2,h3,h4.upd hu (hr 1)⟩
 |dead=>obtain⟨cs,t,h1⟩:=hb;exact⟨cs,t,by rw[hg];exact h1⟩
 |vec sz ver xs=>exact VecRel.imp (fun _ _ _ h=>h) (fun _ h=>h) (fun _ h _=>h) hg (fun q n cap k=>⟨hu.other q (fun hq=>hr 0 (hq▸k.1)),k.upd hu (hr 0)⟩) hb
theorem qkw (m:MInv P C ω w0 C0 hp w)(e:EnvRel C ω w w0.heap.size env tmps){r q cells}{t:TypeId}{news s}(hω:ω r=some (.slot s))(hB:w0.heap.size≤r∨C.W r)(hβ:∀b,C.β b≠some r)
  (hg:w.heap[r]?=some (.cells cells t (0,0))) (hfit:q+news.length≤cells.size) (hK:∀o,q≤o→C.K r o=none) (h1:∀v∈news,v.oneCell'=true):
  MInv P (C.put r q news) (own1 ω r d) w0 C0 hp (w.setRow r (cells.toList.take q++news++cells.toList.drop (q+news.length)).toArray) ∧
  EnvRel (C.put r q news) (own1 ω r d) (w.setRow r (cells.toList.take q++news++cells.toList.drop (q+news.length)).toArray) w0.heap.size (jt env (some s)) tmps∧C.le (C.put r q news):=by
 have hu:=qa5 hg (cells.toList.take q++news++cells.toList.drop (q+news.length)).toArray
 generalize hw':w.setRow r (cells.toList.take q++news++cells.toList.drop (q+news.length)).toArray=w' at hu
 have hle:=Ctx.put_le (C:=C) (off:=q) news hK
 have hown:∀ℓ x v,ℓ≠.slot s→OwnV C ω w w0.heap.size ℓ x v→OwnV (C.put r q news) (own1 ω r d) w' w0.heap.size ℓ x v:=by
  intro ℓ x v hℓ ho
  have hne:ω r≠some ℓ:=by rw[hω];intro h;exact hℓ (Option.some.inj h).symm
  have h2:OwnV (C.put r q news) ω w' w0.heap.size ℓ x v:=(ho.put news (.inr hne)).upd hu hne
  exact h2.other (.inl hne)
 refine⟨?_,?_,hle⟩
 ·have hwsz:=hu.size
  refine { base:=m.base,know:=?_,kone:=?_,apart:=?_,inj:=m.inj,lt:=?_,size:=?_,frame:=?_,dfr:=?_,os:=hu.os.trans m.os,output:=hu.output.trans m.output,fresh:=m.fresh,grown:=Ctx.le_trans m.grown hle,old:=?_,box:=?_,tlt:=fun q hq=>by rw[hu.size];exact m.tlt q hq }
  ·intro b p v hk
   simp only[Ctx.put]at hk
   split at hk
   ·rename_i hc
    obtain⟨rfl,h2,h3⟩:=hc
    obtain⟨t',ht'⟩:=hu.at_
    simp only[World.cell?,ht']
    rw[List.getElem?_toArray,List.append_assoc,List.getElem?_append_right (by simp;omega),List.getElem?_append_left (by simp;omega)]
    have:(List.take q cells.toList).length=q:=by simp;omega
    rw[this]
    simpa using hk
   ·by_cases hb:b=r
    ·subst hb
     have hlt:p<q:=by
      rcases Nat.lt_or_ge p q with h|h
      ·exact h
      ·rw[hK p h]at hk;cases hk
     have hc:=m.know _ _ _ hk
     obtain⟨t',ht'⟩:=hu.at_
     simp only[World.cell?,hg]at hc
     simp only[World.cell?,ht']
     simp only[Option.isSome_none,Bool.false_eq_true,if_false]at hc ⊢
     rw[List.getElem?_toArray,List.append_assoc,List.getElem?_append_left (by simp;omega),List.getElem?_take_of_lt hlt,Array.getElem?_toList]
     exact hc
    ·have hc:=m.know _ _ _ hk
     simp only[World.cell?]at hc ⊢
     rw[hu.other b hb]
     exact hc
  ·intro b p v hk
   simp only[Ctx.put]at hk
   split at hk
   ·exact h1 v (List.mem_of_getElem? hk)
   ·exact m.kone b p v hk
  ·intro b p o hb
   simp only[Ctx.put]
   rw[if_neg]
   ·exact m.apart b p o hb
   ·rintro ⟨rfl,_⟩;exact hβ b hb
  ·intro b p hb
   rw[hwsz];exact m.lt b p hb
  ·rw[hwsz];exact m.size
  ·intro k hk hn hw
   have hkr:k≠r:=fun h=>by
    subst h
    rcases hB with h|h
    ·omega
    ·rw[m.grown.w]at h;exact hw h
   rw[hu.other k hkr];exact m.frame k hk hn hw
  ·intro k hk
   have hkr:k≠r:=fun h=>by
    subst h
    have:=m.dfr k hk
    rw[hg]at this;cases this
   rw[hu.other k hkr];exact m.dfr k hk
  ·intro k o hk hw
   have hkr:k≠r:=fun h=>by
    subst h
    rcases hB with h|h
    ·omega
    ·rw[m.grown.w]at h;exact hw h
   simp only[Ctx.put]
   rw[if_neg (by rintro ⟨h,_⟩;exact hkr h)]
   exact m.old k o hk hw
  ·intro b x p hx hb
   have hne:p≠r:=fun h=>hβ b (h▸hb)
   have hb0:=m.box b x p hx hb
   have hb1:BoxRel P C ω w' w0.heap.size b p x:=hb0.upd hu hne (fun j=>by rw[hω];simp)
   refine hb1.mono hle fun j y v ho=>?_
   have hne':ω r≠some (.cell b j):=by rw[hω];simp
   exact(ho.put news (.inr hne')).other (.inl hne')
 ·intro t x hx
  have hlk:∃v o,qv s env=some (v,o)∨qv s env=none:=by
   cases h:qv s env with
   |none=>exact⟨.undef,false,.inr rfl⟩
   |some x=>exact⟨x.1,x.2,.inl rfl⟩
  by_cases hts:t=s
  ·subst hts
   simp only[jt]at hx
   cases hl:qv t env with
   |none=>rw[hl]at hx;simp only[hl]at hx;cases hx
   |some y=>
    rw[hl]at hx
    simp only[qv,Nat.beq_refl,cond_true]at hx
    cases hx
    obtain⟨v,h2,h3,_⟩:=e t y hl
    exact⟨v,h2,RepI.mono hle h3,by simp⟩
  ·have hx':qv t env=some x:=by
    simp only[jt]at hx
    cases hl:qv s env with
    |none=>rw[hl]at hx;exact hx
    |some y=>
     rw[hl]at hx
     simp only[qv]at hx
     have:Nat.beq s t=false:=by
      cases hb:Nat.beq s t with
      |false=>rfl
      |true=>exact absurd (Nat.eq_of_beq_eq_true hb).symm hts
     rw[this]at hx
     exact hx
   obtain⟨v,h2,h3,h4⟩:=e t x hx'
   exact⟨v,h2,RepI.mono hle h3,fun h=>hown _ _ _ (by simp[hts]) (h4 h)⟩
theorem qa9 {t tx ty e:TypeId}{i:TypeInfo}(ht:P.underlying t=some (.slice e))(hi:P.info? e=some i)(r off sLen sCap:Nat)(x:Value)(n:Nat)(news:List Value)(hs:Src P i.size tx x n news w)(hroom:sLen+n≤sCap)
  {cells} {te:TypeId} (hg:w.heap[r]?=some (.cells cells te (0,0))) (hfit:off+sLen*i.size+news.length≤cells.size):
  (Builtin.append_ #[t,tx] ty #[.slice (some ⟨r,off,none⟩) sLen sCap,x]).run P w =
   .ok (.slice (some ⟨r,off,none⟩) (sLen+n) sCap) (w.setRow r (cells.toList.take (off+sLen*i.size)++news++cells.toList.drop (off+sLen*i.size+news.length)).toArray):=by
 have hst:=run_storeCells_at (P:=P) r (off+sLen*i.size) te news 0 cells w hg (by simpa using hfit) hs.one
 simp only[Nat.add_zero]at hst
 rcases hs.kind with⟨e',hk⟩|hk<;>simp[Builtin.append_,run_underlying ht,run_underlying hk,sizeOf,typeInfo,hi,hs.len,hroom,hs.cells,Addr.add_lit,hst]
theorem qfs {t tx ty e:TypeId}{i:TypeInfo}(ht:P.underlying t=some (.slice e))(hi:P.info? e=some i)(x:Value)(hs:Src P i.size tx x 0 [] w):
  (Builtin.append_ #[t,tx] ty #[.slice none 0 0,x]).run P w=.ok (.slice none 0 0) w:=by
 rcases hs.kind with⟨e',hk⟩|hk<;>simp[Builtin.append_,run_underlying ht,run_underlying hk,sizeOf,typeInfo,hi,hs.len,hs.cells]
theorem qkt (m:MInv P C ω w0 C0 hp w){u:TypeId}{ut:TypeDesc}{sz vy ys v}(hu:P.underlying u=some ut)(hut:qau ut=true)(h:jx sz vy=some ys)(hr:Rep C vy v):
  ∃news,Src P sz u v ys.length news w∧RepL C (ys.flatMap AVal.flat) news∧(∀y∈ys,y.flat.length=sz)∧∀x∈news,x.oneCell'=true:=by
 have hk:(∃e',P.underlying u=some (.slice e'))∨P.underlying u=some .string:=by
  cases ut<;>simp[qau]at hut
  ·exact .inr hu
  ·exact .inl ⟨_,hu⟩
 cases vy with
 |list n sy ys'=>
  simp only[jx]at h
  cases hb:(Nat.beq sz sy||ys'.isEmpty)with
  |false=>simp[hb]at h
  |true=>
   simp only[hb,cond_true,Option.some.injEq]at h
   subst h
   rcases hr.list_inv with⟨rfl,rfl,rfl⟩|⟨rfl,r,q,cap,rfl,_,hrow⟩|⟨rfl,rfl,ad,_,rfl⟩
   ·exact⟨[],⟨hk,fun _=>rfl,run_firstCells_none w sz 0 0 0,run_firstCells_none w.drew sz 0 0 0,by simp,by simp⟩,.nil,by simp,by simp⟩
   ·obtain⟨news,h1,h2⟩:=RepC.vals hrow.cells
    have h3:∀x∈news,x.oneCell'=true:=fun x hx=>by
     obtain⟨j,hj⟩:=List.getElem?_of_mem hx
     exact m.kone _ _ _ (h2 j x hj)
    have hsz:∀y∈ys',y.flat.length=sz:=by
     intro y hy
     rcases Bool.or_eq_true _ _▸hb with hb|hb
     ·rw[Nat.eq_of_beq_eq_true hb];exact hrow.sized y hy
     ·rw[List.isEmpty_iff.1 hb]at hy;cases hy
    have hl:news.length=ys'.length*sz:=by rw[h1.length,z6 ys' hsz]
    have hc:∀j u,news[j]?=some u→w.cell? ((⟨r,q,none⟩:Addr).add j)=some u:=fun j u hj=>by rw[add_lit];exact m.know _ _ _ (h2 j u hj)
    refine⟨news,⟨hk,fun _=>rfl,run_firstCells_some w sz _ _ _ _ news hl hc,run_firstCells_some w.drew sz _ _ _ _ news hl (by simpa using hc),hl,h3⟩,h1,hsz,h3⟩
   ·exact⟨[],⟨hk,fun _=>rfl,run_firstCells_some w sz _ _ _ _ [] (by simp) (by simp),run_firstCells_some w.drew sz _ _ _ _ [] (by simp) (by simp),by simp,by simp⟩,.nil,by simp,by simp⟩
 |str s=>
  simp only[jx]at h
  cases hb:Nat.beq sz 1 with
  |false=>simp[hb]at h
  |true=>
   simp only[hb,cond_true,Option.some.injEq]at h
   obtain rfl:=Nat.eq_of_beq_eq_true hb
   subst h
   obtain rfl:=hr.str_inv
   have hflat:∀l:List UInt8,(l.map fun(c:UInt8)=>AVal.int .u8 c.toNat).flatMap AVal.flat=l.map fun(c:UInt8)=>AVal.int .u8 c.toNat:=by
    intro l;induction l with
    |nil=>rfl
    |cons c l ih=>simp only[List.map_cons,List.flatMap_cons,ih];rfl
   have hrep:∀l:List UInt8,RepL C (l.map fun(c:UInt8)=>AVal.int .u8 c.toNat) (l.map fun b=>Value.int .u8 b.toNat):=by
    intro l;induction l with
    |nil=>exact .nil
    |cons c l ih=>exact .cons _ _ _ _ (.int _ _) ih
   refine⟨byteCells ⟨⟨s⟩⟩,⟨hk,fun w'=>by simp[Builtin.lenOf];rfl,?_,?_,?_,?_⟩,?_,?_,?_⟩
   ·rw[List.length_map];exact firstCells_string (P:=P) ⟨⟨s⟩⟩ w
   ·rw[List.length_map];exact firstCells_string (P:=P) ⟨⟨s⟩⟩ w.drew
   ·simp[byteCells]
   ·intro u hu;obtain⟨_,_,rfl⟩:=List.mem_map.1 hu;rfl
   ·rw[hflat];simpa[byteCells]using hrep s
   ·intro y hy;obtain⟨_,_,rfl⟩:=List.mem_map.1 hy;rfl
   ·intro u hu;obtain⟨_,_,rfl⟩:=List.mem_map.1 hu;rfl
 |_=>simp[jx]at h
theorem qdn {x s}(h:jn env x=some s):x=.tmp s∧∃v,qv s env=some (v,true):=by
 unfold jn at h
 split at h
 ·split at h
  ·rename_i t v hl
   cases h
   exact⟨rfl,v,hl⟩
  ·cases h
 ·cases h
theorem qol (e:EnvRel C ω w w0.heap.size env a.tmps){x x' sz len cap xs ad}(h1:ql x=some x')(hown:(jn env x').isSome=true)(e1:qe env x'=some (.list false sz xs))(hx:a.eval x=.slice (some ad) len cap):ad.spot=none:=by
 obtain⟨s,hs'⟩:=Option.isSome_iff_exists.1 hown
 obtain⟨hx',v0,hl⟩:=qdn hs'
 have hv0:v0=.list false sz xs:=by
  subst hx'
  simp only[qe,hl]at e1
  exact Option.some.inj e1
 subst hv0
 obtain⟨cv,hc1,hc2,hc3⟩:=e s _ hl
 have hcv:cv=.slice (some ad) len cap:=by
  have hxe:ql x=some (.tmp s):=by rw[h1,hx']
  cases x with
  |tmp t'=>
   simp only[ql]at hxe
   cases hxe
   have:a.eval (.tmp s)=cv:=by simp[Act.eval,Array.getD_eq_getD_getElem?,hc1]
   rw[←this,hx]
  |const u=>simp only[ql]at hxe;split at hxe<;>cases hxe
  |func f=>simp[ql]at hxe
  |global g=>simp[ql]at hxe
 subst hcv
 exact(hc3 rfl).2.2.2.1
theorem qrw (m:MInv P C ω w0 C0 hp w)(e:EnvRel C ω w w0.heap.size env a.tmps){c}{t u el:TypeId}{ut:TypeDesc}{x y x' y' sz b n sz' xs ys vy}
  (ho:o.op=.call c) (hcb:c.callee=.builtin .append) (hca:c.args.toList=[x,y]) (hct:c.argTypes.toList=[t,u]) (ht:P.underlying t=some (.slice el)) (hu:P.underlying u=some ut) (hut:qau ut=true)
  (hn:qy P el=some sz) (hb:kz P el=some b) (h1:ql x=some x') (h2:ql y=some y') (e1:qe env x'=some (.list n sz' xs)) (e2:qe env y'=some vy) (hsrc:jx sz vy=some ys)
  (hown:n=true∨(jn env x').isSome=true) (hszs:sz=sz'∨(xs=[]∧n=true)) (hlen:xs.length+ys.length≤1073741824) (hbl:b≤4096) (hzero:∃z,zd P el=some z∧z.length=sz):
  ∃v w',(execOp a.eval o).run P w=.ok (.value v) w'∧jk P C0 w0 C a.tmps d env ⟨qeb n sz xs ys,true,jn env x',hp⟩ v w':=by
 have ha:c.args=#[x,y]:=by apply Array.ext';simpa using hca
 have hty:c.argTypes=#[t,u]:=by apply Array.ext';simpa using hct
 obtain⟨i,hi,hib⟩:∃i,P.info? el=some i∧i.bytes=b:=by
  unfold kz at hb
  cases hi:P.info? el with
  |none=>simp[hi]at hb
  |some i=>exact⟨i,rfl,by simpa[hi]using hb⟩
 have hsi:i.size=sz:=by
  unfold qy at hn;rw[hi]at hn;simpa using hn
 obtain⟨z,hz,hzl0⟩:=hzero
 obtain⟨zv,hzv⟩:∃zv,i.zero=some zv:=by
  unfold zd at hz;rw[hi]at hz
  cases hq:i.zero with
  |none=>simp[hq]at hz
  |some v=>exact⟨v,rfl⟩
 have rx:=qn e.rep h1 e1
 have ry:=qn e.rep h2 e2
 obtain⟨news,hs,hnews,hysz,hone⟩:=qkt m hu hut hsrc ry
 have hrunE:∀ {z:Value} {w':World},(Builtin.append_ #[t,u] o.type #[a.eval x,a.eval y]).run P w=.ok z w'→(execOp a.eval o).run P w=.ok (.value z) w':=by
  intro z w' h
  simp[execOp,ho,resolve,hcb,ha,hty,invoke,builtin,h]
 have hnl:news.length=ys.length*sz:=by rw[hnews.length,z6 ys hysz]
 -- a new row
 have grow:∀(base:Option Addr) (cap:Nat) (olds:List Value),a.eval x=.slice base xs.length cap→cap<xs.length+ys.length→(∀(w':World),w'=w.drew→(Builtin.firstCells i.size xs.length (.slice base xs.length cap)).run P w'=.ok olds.toArray w') →
   RepL C (xs.flatMap AVal.flat) olds→(∀v∈olds,v.oneCell'=true)→(∀x∈xs,x.flat.length=sz) →
   ∃v w',(execOp a.eval o).run P w=.ok (.value v) w'∧jk P C0 w0 C a.tmps d env ⟨.list false sz (xs++ys),true,jn env x',hp⟩ v w':=by
  intro base cap olds hbase hcap hold hrold h1old hxsz
  have hfit:Builtin.nextslicecap (xs.length+ys.length) cap*i.bytes≤281474976710656:=growslice_fits hcap (by
   rw[hib]
   exact Nat.le_trans (Nat.mul_le_mul hlen hbl) (by decide))
  have hrun:=run_append_grow_src w t u o.type el i zv ht hi hzv base xs.length cap olds (hold _ rfl) (a.eval y) ys.length news (hsi▸hs) hcap (by omega) hfit
  rw[←hbase]at hrun
  refine⟨_,_,hrunE hrun,?_⟩
  have hx:Ext w w.drew:=Ext.drew w
  have hge:=grownCap_ge w (xs.length+ys.length) cap el
  have hzl:zv.cells.size=sz:=by
   obtain⟨_,zv',hz1,hz2,_⟩:=yh (C:=C) hz
   have:=hz1 w
   simp[zeroValue,typeInfo,hi,hzv]at this
   subst this
   have:=hz2.length
   simp at this
   omega
  have hcore:=qip (d:=d) (tmps:=a.tmps) (m.ext hx) (e.ext hx) ((olds++news).toArray++Builtin.zeroCells zv.cells (grownCap w (xs.length+ys.length) cap el-(xs.length+ys.length))) el (xs++ys) sz (grownCap w (xs.length+ys.length) cap el) (olds++news)
   (by rw[List.flatMap_append];exact RepL.append hrold hnews) (by
    intro j v hj
    rw[Array.getElem?_append_left (by simpa using(List.getElem?_eq_some_iff.1 hj).1)]
    simpa using hj) (by
    intro v hv
    rcases List.mem_append.1 hv with hv|hv
    ·exact h1old v hv
    ·exact hone v hv) (by
    intro x hx
    rcases List.mem_append.1 hx with hx|hx
    ·exact hxsz x hx
    ·exact hysz x hx) (by rw[List.length_append];exact hge) (by
    have ho:=hrold.length
    rw[z6 xs hxsz]at ho
    simp[Builtin.zeroCells,hzl,ho,hnl]
    rw[←Nat.add_mul,←Nat.add_mul]
    exact Nat.mul_le_mul_right _ (by omega)) (jn env x')
  rw[List.length_append]at hcore
  exact hcore
 rcases rx.list_inv with⟨rfl,rfl,hx⟩|⟨rfl,r,q,cap,hx,hle,hrow⟩|⟨rfl,rfl,ad,hsp,hx⟩
 rotate_right
 ·exact absurd (qol e h1 (by rcases hown with h|h<;>first|cases h|exact h) e1 hx) hsp
 ·-- nil
  cases ys with
  |nil=>
   have:news=[]:=by cases hnews;rfl
   subst this
   refine⟨.slice none 0 0,w,hrunE ?_,C,ω,Ctx.le_refl C,m,e.strip _,by simpa[qeb]using RepI.lnil 0,fun _=>trivial⟩
   rw[hx]
   exact qfs ht hi _ (hsi▸hs)
  |cons y1 ys1=>
   have:=grow none 0 [] hx (by simp) (fun w' _=>run_firstCells_none w' _ _ _ _) .nil (by simp) (by simp)
   simpa[qeb]using this
 ·-- own
  rw[show qeb false sz xs ys=.list false sz (xs++ys)from rfl]
  have hsome:(jn env x').isSome=true:=by rcases hown with h|h<;>first|cases h|exact h
  obtain⟨s,hs'⟩:=Option.isSome_iff_exists.1 hsome
  obtain⟨hx',v0,hl⟩:=qdn hs'
  obtain rfl:sz=sz':=by rcases hszs with h|⟨_,h⟩<;>first|exact h|cases h
  have hv0:v0=.list false sz xs:=by
   subst hx'
   simp only[qe,hl]at e1
   exact Option.some.inj e1
  subst hv0
  obtain⟨cv,hc1,hc2,hc3⟩:=e s _ hl
  have hcv:cv=.slice (some ⟨r,q,none⟩) xs.length cap:=by
   have hxe:ql x=some (.tmp s):=by rw[h1,hx']
   cases x with
   |tmp t'=>
    simp only[ql]at hxe
    cases hxe
    have:a.eval (.tmp s)=cv:=by simp[Act.eval,Array.getD_eq_getD_getElem?,hc1]
    rw[←this,hx]
   |const u=>simp only[ql]at hxe;split at hxe<;>cases hxe
   |func f=>simp[ql]at hxe
   |global g=>simp[ql]at hxe
  subst hcv
  obtain⟨hω,hB,hβ,_,hq0,⟨cells,te,hg,hfit,_⟩,hK⟩:=hc3 rfl
  simp only at hω hB hβ hg hfit hK
  obtain⟨olds,ho1,ho2⟩:=RepC.vals hrow.cells
  have hxsz:=hrow.sized
  by_cases hroom:xs.length+ys.length≤cap
  ·-- there is room
   have hcapsz:(xs.length+ys.length)*sz≤cap*sz:=Nat.mul_le_mul_right _ hroom
   rw[Nat.add_mul]at hcapsz
   have hrun:=qa9 (P:=P) (w:=w) (ty:=o.type) ht hi r q xs.length cap (a.eval y) ys.length news (hsi▸hs) hroom hg (by rw[hsi,hnl];omega)
   rw[←hx]at hrun
   obtain⟨m',e',hle'⟩:=qkw (d:=d) (tmps:=a.tmps) m e (r:=r) (q:=q+xs.length*sz) (news:=news) hω hB hβ hg (by rw[hnl];omega) hK hone
   rw[hsi]at hrun
   rw[hs']
   refine⟨_,_,hrunE hrun,_,_,hle',m',e',?_,?_⟩
   ·have hrow':RepRow (C.put r (q+xs.length*sz) news) r sz (xs++ys) q:=RepRow.append (RepI.mono hle' hrow) (RepRow.of_cells (Ctx.put_cells hK hnews) hysz)
    have:=RepI.list sz (xs++ys) r q cap (by simpa using hroom) hrow'
    simpa using this
   ·intro _
    have hall:∀x∈xs++ys,x.flat.length=sz:=fun x hx=>by
     rcases List.mem_append.1 hx with hx|hx
     ·exact hxsz x hx
     ·exact hysz x hx
    refine⟨by simp[own1],hB,hβ,rfl,hq0,⟨_,te,setRow_heap w r cells _ te (0,0) hg,?_,Strict.sized hall⟩,?_⟩
    ·simp;omega
    ·intro p hp
     rw[Nat.add_mul]at hp
     simp only[Ctx.put]
     simp only at hp
     rw[if_neg (by rw[hnl];omega)]
     exact hK p (by omega)
  ·-- there is none
   have hk1:∀v∈olds,v.oneCell'=true:=fun v hv=>by
    obtain⟨j,hj⟩:=List.getElem?_of_mem hv
    exact m.kone _ _ _ (ho2 j v hj)
   have hol:olds.length=xs.length*i.size:=by rw[ho1.length,z6 xs hxsz,hsi]
   have:=grow (some ⟨r,q,none⟩) cap olds hx (by omega) (fun w' hw'=>run_firstCells_some w' _ _ _ _ _ olds hol (fun j v hj=>by
    subst hw'
    rw[add_lit]
    have:=m.know _ _ _ (ho2 j v hj)
    simpa using this)) ho1 hk1 hxsz
   simpa using this
end
structure Upd (w w':World)(r:Nat):Prop where
 size:w'.heap.size=w.heap.size
 other:∀k,k≠r→w'.heap[k]?=w.heap[k]?
 fz:∀c t fr,w'.heap[r]?=some (.cells c t fr)→fr=(0,0)
 os:w'.os=w.os
 output:w'.output=w.output
theorem RowUpd.upd {w w' r cs}(h:RowUpd w w' r cs):Upd w w' r:=
 ⟨h.size,h.other,fun c t fr hc=>by obtain⟨t',ht⟩:=h.at_;rw[ht]at hc;cases hc;rfl,h.os,h.output⟩
section
variable {P:Program}{C C0:Ctx}{ω:Nat→Option Loc}{w w' w0:World}{hp:qi}{env:Env}{a:Act}{o:Oper}{tmps:Array Value}{d:Loc}
theorem OwnV.updβ {B b r ℓ x v}(hu:Upd w w' r)(hb:C.β b=some r)(ho:OwnV C ω w B ℓ x v):OwnV C ω w' B ℓ x v:=by
 unfold OwnV at *
 split at ho
 ·obtain⟨h1,h2,h3,h4,h8,⟨cells,elem,h5,h6⟩,h7⟩:=ho
  refine⟨h1,h2,h3,h4,h8,⟨cells,elem,?_,h6⟩,h7⟩
  rw[hu.other _ (fun h=>h3 b (by rw[h];exact hb))]
  exact h5
 ·obtain⟨h1,h2,h3,h4,h8,⟨cells,elem,h5,h6⟩,h7⟩:=ho
  refine⟨h1,h2,h3,h4,h8,⟨cells,elem,?_,h6⟩,h7⟩
  rw[hu.other _ (fun h=>h3 b (by rw[h];exact hb))]
  exact h5
 ·trivial
theorem EnvRel.updβ {B b r}(hu:Upd w w' r)(hb:C.β b=some r)(e:EnvRel C ω w B env tmps):EnvRel C ω w' B env tmps:=
 fun s x hx=>let ⟨v,h1,h2,h3⟩:=e s x hx; ⟨v,h1,h2,fun h=>(h3 h).updβ hu hb⟩
theorem BoxRel.updβ {B b b' r r' x}(hu:Upd w w' r)(hb:C.β b=some r)(hne:r'≠r)(h:BoxRel P C ω w B b' r' x):BoxRel P C ω w' B b' r' x:=by
 have hg:=hu.other r' hne
 cases x with
 |hole=>exact h
 |cells cs'=>
  obtain⟨vs,elem,h1,h2,h3⟩:=h
  exact⟨vs,elem,by rw[hg];exact h1,h2,fun j c hc=>let ⟨v,a,q,b,d⟩:=h3 j c hc; ⟨v,a,q,b,fun e=>(d e).updβ hu hb⟩⟩
 |map es=>obtain⟨ents,clock,h1,h2⟩:=h;exact⟨ents,clock,by rw[hg];exact h1,h2⟩
 |iter s pos=>show w'.heap[r']?=_;rw[hg];exact h
 |loop l=>obtain⟨lp,h1,h2⟩:=h;exact⟨lp,by rw[hg];exact h1,h2⟩
 |bld t e l=>obtain⟨p,v,h1,h2,h3,h4⟩:=h;exact⟨p,v,by rw[hg];exact h1,h2,h3,h4.updβ hu hb⟩
 |dead=>obtain⟨cs,t,h1⟩:=h;exact⟨cs,t,by rw[hg];exact h1⟩
 |vec sz ver xs=>exact VecRel.imp (fun _ _ _ h=>h) (fun _ h=>h) (fun _ h _=>h) hg (fun q n cap k=>⟨hu.other q (fun hq=>k.2.2.1 b (by rw[hb];exact congrArg some hq.symm)),k.updβ hu hb⟩) h
theorem MInv.updBox {ω'}(m:MInv P C ω w0 C0 hp w){b r}(hu:Upd w w' r)(hb:C.β b=some r)(x':ABox)(hω:∀b' j y v,b'≠b→OwnV C ω w w0.heap.size (.cell b' j) y v→OwnV C ω' w w0.heap.size (.cell b' j) y v)
  (hbox:BoxRel P C ω' w' w0.heap.size b r x'):MInv P C ω' w0 C0 (hp.set b x') w':=by
 have hfr:=m.fresh b r hb
 have hnd:w.heap[r]?≠some (.deferred (some [])):=by
  obtain⟨x,hx⟩:=List.getElem?_eq_getElem (m.lt b r hb).2▸(⟨_,rfl⟩:∃x,some (hp[b]'(m.lt b r hb).2)=some x)
  have h0:=m.box b x r hx hb
  intro h
  cases x with
  |hole=>exact h0
  |cells cs=>obtain⟨vs,elem,h1,_⟩:=h0;rw[h]at h1;cases h1
  |map es=>obtain⟨ents,clock,h1,_⟩:=h0;rw[h]at h1;cases h1
  |iter s pos=>have h1:w.heap[r]?=_:=h0;rw[h]at h1;cases h1
  |loop l=>obtain⟨lp,h1,_⟩:=h0;rw[h]at h1;cases h1
  |bld t e l=>obtain⟨p,v,h1,_⟩:=h0;rw[h]at h1;cases h1
  |dead=>obtain⟨cs,t,h1⟩:=h0;rw[h]at h1;cases h1
  |vec sz ver xs=>obtain⟨_,_,_,_,_,_,cs,t,h1⟩:=h0;rw[h]at h1;cases h1
 refine { base:=m.base,know:=?_,kone:=m.kone,apart:=m.apart,inj:=m.inj,lt:=?_,size:=?_,frame:=?_,dfr:=?_,os:=hu.os.trans m.os,output:=hu.output.trans m.output,fresh:=m.fresh,grown:=m.grown,old:=m.old,box:=?_,tlt:=fun q hq=>by rw[hu.size];exact m.tlt q hq }
 ·intro k p v hk
  have hne:k≠r:=fun h=>by rw[h,m.apart b r p hb]at hk;cases hk
  have hc:=m.know _ _ _ hk
  simp only[World.cell?]at hc ⊢
  rw[hu.other k hne]
  exact hc
 ·intro k p hk
  rw[hu.size,List.length_set];exact m.lt k p hk
 ·rw[hu.size];exact m.size
 ·intro k hk hn hw
  by_cases hkr:k=r
  ·subst hkr
   rcases hfr with h|h|h
   ·exact absurd h (hn b)
   ·omega
   ·exact absurd h hw
  ·rw[hu.other k hkr];exact m.frame k hk hn hw
 ·intro k hk
  have hkr:k≠r:=fun h=>hnd (h▸m.dfr k hk)
  rw[hu.other k hkr];exact m.dfr k hk
 ·intro k x p hx hk
  by_cases hkb:k=b
  ·subst hkb
   rw[hb]at hk
   cases hk
   rw[List.getElem?_set_self (m.lt k _ hb).2]at hx
   cases hx
   exact hbox
  ·rw[List.getElem?_set_ne (Ne.symm hkb)]at hx
   have hpr:p≠r:=fun h=>hkb (m.inj k b p hk (h▸hb))
   have h0:=m.box k x p hx hk
   exact((h0.updβ hu hb hpr).mono (ω':=ω') (Ctx.le_refl C) (fun j y v ho=>by
    have:=hω k j y v hkb
    -- the ownerships of other boxes,in the new world
    unfold OwnV at ho this ⊢
    split at ho
    ·obtain⟨h1,h2,h3,h4,h8,⟨cells,elem,h5,h6⟩,h7⟩:=ho
     rename_i ad len cap
     have hne':ad.block≠r:=fun h=>h3 b (h▸hb)
     rw[hu.other _ hne']at h5
     obtain⟨k1,_⟩:=this ⟨h1,h2,h3,h4,h8,⟨cells,elem,h5,h6⟩,h7⟩
     exact⟨k1,h2,h3,h4,h8,⟨cells,elem,by rw[hu.other _ hne'];exact h5,h6⟩,h7⟩
    ·obtain⟨h1,h2,h3,h4,h8,⟨cells,elem,h5,h6⟩,h7⟩:=ho
     rename_i ad
     have hne':ad.block≠r:=fun h=>h3 b (h▸hb)
     rw[hu.other _ hne']at h5
     obtain⟨k1,_⟩:=this ⟨h1,h2,h3,h4,h8,⟨cells,elem,h5,h6⟩,h7⟩
     exact⟨k1,h2,h3,h4,h8,⟨cells,elem,by rw[hu.other _ hne'];exact h5,h6⟩,h7⟩
    ·trivial))
theorem BoxRel.read {B b r off n cs us}(h:BoxRel P C ω w B b r (.cells cs))(hl:zc cs off n=some us):
  ∃vs,RepL C us vs∧us.length=n∧vs.length=n∧(∀j v,vs[j]?=some v→w.cell? ⟨r,off+j,none⟩=some v)∧∀v∈vs,v.oneCell'=true:=by
 unfold zc at hl
 cases hb:Nat.ble (off+n) cs.length with
 |false=>simp[hb]at hl
 |true=>
  simp only[hb,cond_true,Option.some.injEq]at hl
  subst hl
  have hle:=Nat.le_of_ble_eq_true hb
  obtain⟨vs,elem,h1,h2,h3⟩:=h
  have key:∀(n off:Nat),off+n≤cs.length→∃ws:List Value,RepL C (((cs.drop off).take n).map (·.1)) ws∧ws.length=n∧∀j v,ws[j]?=some v→vs[off+j]?=some v∧v.oneCell'=true:=by
   intro n
   induction n with
   |zero=>intro off _;exact⟨[],by simpa using RepI.nil,rfl,by simp⟩
   |succ n ih=>
    intro off hle
    obtain⟨ws,i1,i2,i3⟩:=ih (off+1) (by omega)
    have hlt:off<cs.length:=by omega
    obtain⟨v,j1,j2,j3,_⟩:=h3 off cs[off] (List.getElem?_eq_getElem hlt)
    refine⟨v::ws,?_,by simp[i2],?_⟩
    ·rw[List.drop_eq_getElem_cons hlt]
     exact .cons _ _ _ _ j3 i1
    ·intro j u hj
     cases j with
     |zero=>simp at hj;subst hj;exact⟨j1,j2⟩
     |succ j=>simp at hj;rw[show off+(j+1)=off+1+j from by omega];exact i3 j u hj
  obtain⟨ws,k1,k2,k3⟩:=key n off hle
  refine⟨ws,k1,by simp;omega,k2,?_,?_⟩
  ·intro j v hj
   have:=(k3 j v hj).1
   simp[World.cell?,h1,this]
  ·intro v hv
   obtain⟨j,hj⟩:=List.getElem?_of_mem hv
   exact(k3 j v hj).2
theorem qbt {t:TypeId}{n r off vs}(hg:zb P t=some true)(hn:qy P t=some n)(hl:vs.length=n)(hc:∀j v,vs[j]?=some v→w.cell? ⟨r,off+j,none⟩=some v):
  (loadVar t ⟨r,off,none⟩).run P w=.ok (.agg ⟨vs⟩) w:=by
 have:=run_loadCells_list (P:=P) w ⟨r,off,none⟩ vs (fun j v hj=>by rw[add_lit];exact hc j v hj)
 rw[hl]at this
 simp[loadVar,qbn hg,j9 hn,this]
theorem qbs {t:TypeId}{r off v}(hg:zb P t=some false)(hc:w.cell? ⟨r,off,none⟩=some v):(loadVar t ⟨r,off,none⟩).run P w=.ok v w:=by
 simp[loadVar,qbn hg,hc]
theorem qjo (m:MInv P C ω w0 C0 hp w)(he:EnvRep C env a.tmps){t:TypeId}{x x' n ag p v}(ho:o.op=.load t x)(hg:zb P t=some ag)(hn:qy P t=some n)(h1n:ag=false→n=1)(h1:ql x=some x')(e1:qe env x'=some p)
  (hv:(∃b q cs us,p=.ptr b q∧ja hp b=some cs∧zc cs q n=some us∧((ag=true∧v=.agg us)∨(ag=false∧us=[v])))∨(p=.vptr v∧Bool.xor ag v.isAgg=false∧v.flat.length=n)):Val P C a o w v:=by
 rcases hv with⟨b,q,cs,us,rfl,hbc,hl,hv⟩|⟨rfl,hx,hvl⟩
 ·obtain⟨r,hr,hq⟩:=(qn he h1 e1).ptr_inv
  have hbx:hp[b]?=some (.cells cs):=by
   unfold ja at hbc
   split at hbc
   ·rename_i cs' h;cases hbc;exact h
   ·cases hbc
  obtain⟨vs,k1,_,k2,k3,_⟩:=(m.box b _ r hbx hr).read hl
  rcases hv with⟨rfl,rfl⟩|⟨rfl,rfl⟩
  ·exact⟨.agg ⟨vs⟩,by simp[execOp,ho,Instr.loadAt,hq,Instr.sureAddr,qbt hg hn k2 k3],.agg _ _ k1⟩
  ·cases k1 with
   |cons _ _ u us hu hnil=>
    cases hnil
    refine⟨u,?_,hu⟩
    have:=qbs (P:=P) hg (by simpa using k3 0 u rfl)
    simp[execOp,ho,Instr.loadAt,hq,Instr.sureAddr,this]
 ·obtain⟨r,q,hq,hc⟩:=(qn he h1 e1).vptr_inv
  obtain⟨vs,k1,k2⟩:=RepC.vals hc
  have hl:vs.length=n:=by rw[k1.length,hvl]
  have k3:∀j u,vs[j]?=some u→w.cell? ⟨r,q+j,none⟩=some u:=fun j u hj=>m.know _ _ _ (k2 j u hj)
  cases ag with
  |true=>
   cases v<;>simp[AVal.isAgg]at hx
   exact⟨.agg ⟨vs⟩,by simp[execOp,ho,Instr.loadAt,hq,Instr.sureAddr,qbt hg hn hl k3],.agg _ _ k1⟩
  |false=>
   rw[kj (by simpa using hx)]at k1
   cases k1 with
   |cons _ _ u us hu hnil=>
    cases hnil
    refine⟨u,?_,hu⟩
    have:=qbs (P:=P) hg (by simpa using k3 0 u rfl)
    simp[execOp,ho,Instr.loadAt,hq,Instr.sureAddr,this]
def Ctx.box (C:Ctx)(b r:Nat):Ctx:={ C with β:=fun k=>if k=b then some r else C.β k }
theorem Ctx.box_le {b r}(h:C.β b=none):C.le (C.box b r):=
 ⟨fun _ _ _ h=>h,fun k p hk=>by
  simp only[Ctx.box]
  rw[if_neg (fun hb=>by rw[hb,h]at hk;cases hk)]
  exact hk,rfl,fun _ h=>h,fun _ h=>h⟩
theorem OwnV.box {B b r ℓ x v}(hr:w.heap.size≤r∨ω r≠some ℓ)(ho:OwnV C ω w B ℓ x v):OwnV (C.box b r) ω w B ℓ x v:=by
 unfold OwnV at *
 split at ho
 ·rename_i ad len cap
  obtain⟨h1,h2,h3,h4,h8,⟨cells,elem,h5,h6⟩,h7⟩:=ho
  have hlt:ad.block<w.heap.size:=(Array.getElem?_eq_some_iff.1 h5).1
  refine⟨h1,h2,fun k hk=>?_,h4,h8,⟨cells,elem,h5,h6⟩,h7⟩
  simp only[Ctx.box]at hk
  split at hk
  ·have hbr:r=ad.block:=Option.some.inj hk
   rcases hr with hr|hr
   ·omega
   ·exact hr (hbr▸h1)
  ·exact h3 k hk
 ·rename_i ad
  obtain⟨h1,h2,h3,h4,h8,⟨cells,elem,h5,h6⟩,h7⟩:=ho
  have hlt:ad.block<w.heap.size:=(Array.getElem?_eq_some_iff.1 h5).1
  refine⟨h1,h2,fun k hk=>?_,h4,h8,⟨cells,elem,h5,h6⟩,h7⟩
  simp only[Ctx.box]at hk
  split at hk
  ·have hbr:r=ad.block:=Option.some.inj hk
   rcases hr with hr|hr
   ·omega
   ·exact hr (hbr▸h1)
  ·exact h3 k hk
 ·trivial
theorem zj {h0 rk x h'}(h:newBox h0 hp rk x=some h'):hp[h0+rk]?=some .hole∧h'=hp.set (h0+rk) x:=by
 unfold newBox at h
 split at h
 ·rename_i hh;cases h;exact⟨hh,rfl⟩
 ·cases h
theorem qdr (m:MInv P C ω w0 C0 hp w){b}(h:hp[b]?=some .hole):C.β b=none:=by
 cases hb:C.β b with
 |none=>rfl
 |some r=>exact(m.box b .hole r h hb).elim
theorem MInv.newBox (m:MInv P C ω w0 C0 hp w)(e:EnvRel C ω w w0.heap.size env tmps){b}(hh:hp[b]?=some .hole)(obj:Obj)(hobj:∀c t fr,obj=.cells c t fr→fr=(0,0))(x:ABox)
  (hbox:∀C' ω' w',C.le C'→w'.heap[w.heap.size]?=some obj→BoxRel P C' ω' w' w0.heap.size b w.heap.size x):
  MInv P (C.box b w.heap.size) ω w0 C0 (hp.set b x) (w.alloc obj)∧EnvRel (C.box b w.heap.size) ω (w.alloc obj) w0.heap.size env tmps∧C.le (C.box b w.heap.size):=by
 have hx:Ext w (w.alloc obj):=Ext.alloc w obj hobj
 have hβ:=qdr m hh
 have hle:=Ctx.box_le (C:=C) (r:=w.heap.size) hβ
 have m':=m.ext hx
 have hlt:b<hp.length:=(List.getElem?_eq_some_iff.1 hh).1
 refine⟨{ m' with apart:=?_,inj:=?_,lt:=?_,fresh:=?_,grown:=Ctx.le_trans m.grown hle,box:=?_ },?_,hle⟩
 ·intro k r q hk
  simp only[Ctx.box]at hk
  split at hk
  ·cases hk;exact m.K_new _ (Nat.le_refl _) q
  ·exact m.apart k r q hk
 ·intro k k' r hk hk'
  simp only[Ctx.box]at hk hk'
  split at hk<;>split at hk'
  ·rename_i h1 h2;rw[h1,h2]
  ·cases hk;have:=(m.lt k' _ hk').1;omega
  ·cases hk';have:=(m.lt k _ hk).1;omega
  ·exact m.inj k k' r hk hk'
 ·intro k r hk
  rw[List.length_set]
  simp only[Ctx.box]at hk
  split at hk
  ·rename_i h1;cases hk;subst h1;exact⟨by rw[World.size_alloc];omega,hlt⟩
  ·have:=m.lt k r hk;exact⟨by rw[World.size_alloc];omega,this.2⟩
 ·intro k r hk
  simp only[Ctx.box]at hk
  split at hk
  ·cases hk;exact .inr (.inl m.size)
  ·exact m.fresh k r hk
 ·intro k y r hy hk
  simp only[Ctx.box]at hk
  split at hk
  ·rename_i h1
   subst h1
   cases hk
   rw[List.getElem?_set_self hlt]at hy
   cases hy
   exact hbox _ _ _ hle (by rw[qat,if_pos rfl])
  ·rename_i h1
   rw[List.getElem?_set_ne (Ne.symm h1)]at hy
   exact((m.box k y r hy hk).mono (ω':=ω) hle fun j z v ho=>ho.box (.inl (Nat.le_refl _))).ext hx
 ·exact fun s y hy=>let ⟨v,h1,h2,h3⟩:=e s y hy; ⟨v,h1,RepI.mono hle h2,fun h=>((h3 h).box (.inl (Nat.le_refl _))).ext hx⟩
theorem OwnV.boxN {B b r ℓ x v}(hr:∀cs t fr,w.heap[r]?≠some (.cells cs t fr))(ho:OwnV C ω w B ℓ x v):OwnV (C.box b r) ω w B ℓ x v:=by
 unfold OwnV at *
 split at ho
 ·rename_i ad len cap
  obtain⟨h1,h2,h3,h4,h8,⟨cells,elem,h5,h6⟩,h7⟩:=ho
  refine⟨h1,h2,fun k hk=>?_,h4,h8,⟨cells,elem,h5,h6⟩,h7⟩
  simp only[Ctx.box]at hk
  split at hk
  ·have hbr:r=ad.block:=Option.some.inj hk
   exact absurd (hbr▸h5) (hr _ _ _)
  ·exact h3 k hk
 ·rename_i ad
  obtain⟨h1,h2,h3,h4,h8,⟨cells,elem,h5,h6⟩,h7⟩:=ho
  refine⟨h1,h2,fun k hk=>?_,h4,h8,⟨cells,elem,h5,h6⟩,h7⟩
  simp only[Ctx.box]at hk
  split at hk
  ·have hbr:r=ad.block:=Option.some.inj hk
   exact absurd (hbr▸h5) (hr _ _ _)
  ·exact h3 k hk
 ·trivial
theorem MInv.boxAt (m:MInv P C ω w0 C0 hp w)(e:EnvRel C ω w w0.heap.size env tmps){b q es ents clock}(hh:hp[b]?=some .hole)(hg:w.heap[q]?=some (.map ents clock))(hq:∀k,C.β k≠some q)(hb:w0.heap.size≤q)(hr:RepE C es ents.toList):
  MInv P (C.box b q) ω w0 C0 (hp.set b (.map es)) w∧EnvRel (C.box b q) ω w w0.heap.size env tmps∧C.le (C.box b q):=by
 have hβ:=qdr m hh
 have hle:=Ctx.box_le (C:=C) (r:=q) hβ
 have hlt:b<hp.length:=(List.getElem?_eq_some_iff.1 hh).1
 have hnc:∀cs t fr,w.heap[q]?≠some (.cells cs t fr):=fun cs t fr h=>by rw[hg]at h;cases h
 refine⟨{ m with apart:=?_,inj:=?_,lt:=?_,fresh:=?_,grown:=Ctx.le_trans m.grown hle,box:=?_ },?_,hle⟩
 ·intro k r o hk
  simp only[Ctx.box]at hk
  split at hk
  ·cases hk
   show C.K q o=none
   cases hK:C.K q o with
   |none=>rfl
   |some v=>
    have:=m.know q o v hK
    simp[World.cell?,hg]at this
  ·exact m.apart k r o hk
 ·intro k k' r hk hk'
  simp only[Ctx.box]at hk hk'
  split at hk<;>split at hk'
  ·rename_i h1 h2;rw[h1,h2]
  ·cases hk;exact absurd hk' (hq k')
  ·cases hk';exact absurd hk (hq k)
  ·exact m.inj k k' r hk hk'
 ·intro k r hk
  rw[List.length_set]
  simp only[Ctx.box]at hk
  split at hk
  ·rename_i h1;cases hk;subst h1;exact⟨(Array.getElem?_eq_some_iff.1 hg).1,hlt⟩
  ·exact m.lt k r hk
 ·intro k r hk
  simp only[Ctx.box]at hk
  split at hk
  ·cases hk;exact .inr (.inl hb)
  ·exact m.fresh k r hk
 ·intro k y r hy hk
  simp only[Ctx.box]at hk
  split at hk
  ·rename_i h1
   subst h1
   cases hk
   rw[List.getElem?_set_self hlt]at hy
   cases hy
   exact⟨ents,clock,hg,hr.mono hle⟩
  ·rename_i h1
   rw[List.getElem?_set_ne (Ne.symm h1)]at hy
   exact(m.box k y r hy hk).mono (ω':=ω) hle fun j z v ho=>ho.boxN hnc
 ·exact fun s y hy=>let ⟨v,h1,h2,h3⟩:=e s y hy; ⟨v,h1,RepI.mono hle h2,fun h=>(h3 h).boxN hnc⟩
theorem qg0 {xs vs}{t:TypeId}{B b r cells}(hr:RepL C xs vs)(hs:∀x∈xs,qf x=true)(hv:∀(j:Nat) v,vs[j]?=some v→cells[j]?=some v)(hl:xs.length≤cells.size):
  ∀C' ω' w',C.le C'→w'.heap[r]?=some (.cells cells t (0,0))→BoxRel P C' ω' w' B b r (.cells (cellsOf xs)):=by
 intro C' ω' w' hle hg
 refine⟨cells,t,hg,by simpa[cellsOf]using hl,?_⟩
 intro j c hc
 simp only[cellsOf,List.getElem?_map,Option.map_eq_some_iff]at hc
 obtain⟨x,hx,rfl⟩:=hc
 obtain⟨v,h1,h2⟩:=hr.get hx
 exact⟨v,hv j v h1,qfv h2 (hs x (List.mem_of_getElem? hx)),RepI.mono hle h2,by simp⟩
theorem qtj (m:MInv P C ω w0 C0 hp w)(e:EnvRel C ω w w0.heap.size env a.tmps){t:TypeId}{z h0 rk h'}(ho:o.op=.alloc t)(hz:zd P t=some z)(hs:∀x∈z,qf x=true)(hn:newBox h0 hp rk (.cells (cellsOf z))=some h'):
  ∃v w',(execOp a.eval o).run P w=.ok (.value v) w'∧jk P C0 w0 C a.tmps d env ⟨.ptr (h0+rk) 0,false,none,h'⟩ v w':=by
 obtain⟨hh,rfl⟩:=zj hn
 obtain⟨_,zv,hzr,hzrep,hz1⟩:=yh (C:=C) hz
 obtain⟨m',e',hle⟩:=m.newBox e hh (.cells zv.cells t) (fun c t fr h=>by cases h;rfl) (.cells (cellsOf z)) (qg0 hzrep hs (fun j v h=>by simpa using h) (by have:=hzrep.length;simp at this;omega))
 refine⟨.pointer (some ⟨w.heap.size,0,none⟩),_,?_,_,_,hle,m',e',.ptr _ _ _ (by simp[Ctx.box]),by simp⟩
 simp[execOp,ho,Instr.alloc,hzr,newVar,newRow]
theorem qyo (m:MInv P C ω w0 C0 hp w)(e:EnvRel C ω w w0.heap.size env a.tmps){t:TypeId}{x x' v h0 rk h'}(ho:o.op=.box t x)(h1:ql x=some x')(e1:qe env x'=some v)(hs:v.flat.all qf=true)
  (hn:newBox h0 hp rk (.cells (cellsOf v.flat))=some h'):
  ∃v w',(execOp a.eval o).run P w=.ok (.value v) w'∧jk P C0 w0 C a.tmps d env ⟨.ptr (h0+rk) 0,false,none,h'⟩ v w':=by
 obtain⟨hh,rfl⟩:=zj hn
 have hr:=qay (qn e.rep h1 e1) hs
 obtain⟨m',e',hle⟩:=m.newBox e hh (.cells (a.eval x).cells t) (fun c t fr h=>by cases h;rfl) (.cells (cellsOf v.flat)) (qg0 hr (by simpa using hs) (fun j v h=>by simpa using h) (by have:=hr.length;simp at this;omega))
 refine⟨.pointer (some ⟨w.heap.size,0,none⟩),_,?_,_,_,hle,m',e',.ptr _ _ _ (by simp[Ctx.box]),by simp⟩
 simp[execOp,ho,Instr.box,newVar,newRow]
theorem qvp (m:MInv P C ω w0 C0 hp w)(e:EnvRel C ω w w0.heap.size env a.tmps){t:TypeId}{x x' v}(ho:o.op=.box t x)(h1:ql x=some x')(e1:qe env x'=some v)(hs:v.flat.all qf=true):
  ∃u w',(execOp a.eval o).run P w=.ok (.value u) w'∧jk P C0 w0 C a.tmps d env ⟨.vptr v,false,none,hp⟩ u w':=by
 have hr:=qay (qn e.rep h1 e1) hs
 have hx:Ext w (w.alloc (.cells (a.eval x).cells t)):=Ext.alloc w _ (fun c t fr h=>by cases h;rfl)
 have hn:∀o,0≤o→C.K w.heap.size o=none:=fun o _=>m.K_new _ (Nat.le_refl _) o
 have m':=m.newRow (a.eval x).cells t (a.eval x).cells.toList (fun j v h=>by simpa using h) (ko hr (fun y hy=>List.all_eq_true.1 hs y hy))
 refine⟨.pointer (some ⟨w.heap.size,0,none⟩),_,?_,_,ω,Ctx.put_le _ hn,m',(e.put _ (.inl (Nat.le_refl _)) hn).ext hx,.vptr _ _ _ (Ctx.put_cells hn hr),by simp⟩
 simp[execOp,ho,Instr.box,newVar,newRow]
theorem qxt (m:MInv P C ω w0 C0 hp w)(e:EnvRel C ω w w0.heap.size env a.tmps){t:TypeId}{e' sz h0 rk h'}(ho:o.op=.alloc t)(hz:zd P t=some [.nilptr,.list true sz []])(hn:newBox h0 hp rk (.bld t e' [])=some h'):
  ∃v w',(execOp a.eval o).run P w=.ok (.value v) w'∧jk P C0 w0 C a.tmps d env ⟨.ptr (h0+rk) 0,false,none,h'⟩ v w':=by
 obtain⟨hh,rfl⟩:=zj hn
 obtain⟨_,zv,hzr,hzrep,hz1⟩:=yh (C:=C) hz
 have hzc:zv.cells=#[.pointer none,.slice none 0 0]:=by
  apply Array.ext'
  generalize zv.cells.toList=vs at hzrep
  cases hzrep with
  |cons _ _ v vs h1 h2=>
   cases h2 with
   |cons _ _ u us h3 h4=>
    cases h4
    cases h1
    cases h3
    rfl
 obtain⟨m',e',hle⟩:=m.newBox e hh (.cells zv.cells t) (fun c t fr h=>by cases h;rfl) (.bld t e' []) (fun C' ω' w' _ hg=>⟨.pointer none,.slice none 0 0,by rw[hzc]at hg;exact hg,.inl rfl,.inl ⟨rfl,rfl⟩,trivial⟩)
 refine⟨.pointer (some ⟨w.heap.size,0,none⟩),_,?_,_,_,hle,m',e',.ptr _ _ _ (by simp[Ctx.box]),by simp⟩
 simp[execOp,ho,Instr.alloc,hzr,newVar,newRow]
theorem qt5 (m:MInv P C ω w0 C0 hp w)(e:EnvRel C ω w w0.heap.size env a.tmps){t:TypeId}{h0 rk h'}(ho:o.op=.makeMap t none)(hn:newBox h0 hp rk (.map [])=some h'):
  ∃v w',(execOp a.eval o).run P w=.ok (.value v) w'∧jk P C0 w0 C a.tmps d env ⟨.map (h0+rk),false,none,h'⟩ v w':=by
 obtain⟨hh,rfl⟩:=zj hn
 obtain⟨m',e',hle⟩:=m.newBox e hh (.map #[] 0) (fun c t fr h=>by cases h) (.map []) (fun C' ω' w' _ hg=>⟨#[],0,hg,.nil⟩)
 refine⟨.map (some w.heap.size),_,?_,_,_,hle,m',e',.map _ _ (by simp[Ctx.box]),by simp⟩
 simp[execOp,ho,Instr.makeMap]
theorem qq9 (m:MInv P C ω w0 C0 hp w)(e:EnvRel C ω w w0.heap.size env a.tmps){t:TypeId}{x x' s h0 rk h'}(ho:o.op=.range t x)(ht:P.underlying t=some .string)(h1:ql x=some x')(e1:qe env x'=some (.str s))(hn:newBox h0 hp rk (.iter s 0)=some h'):
  ∃v w',(execOp a.eval o).run P w=.ok (.value v) w'∧jk P C0 w0 C a.tmps d env ⟨.ptr (h0+rk) 0,false,none,h'⟩ v w':=by
 obtain⟨hh,rfl⟩:=zj hn
 have hs:=(qn e.rep h1 e1).str_inv
 obtain⟨m',e',hle⟩:=m.newBox e hh (.stringIter ⟨⟨s⟩⟩ 0) (fun c t fr h=>by cases h) (.iter s 0) (fun C' ω' w' _ hg=>hg)
 refine⟨.pointer (some ⟨w.heap.size,0,none⟩),_,?_,_,_,hle,m',e',.ptr _ _ _ (by simp[Ctx.box]),by simp⟩
 simp[execOp,ho,Instr.range,run_underlying ht,hs]
end
section
variable {P:Program}{C C0:Ctx}{ω:Nat→Option Loc}{w w' w0:World}{hp:qi}{env:Env}{a:Act}{o:Oper}{tmps:Array Value}{d:Loc}
def qa6 (ω:Nat→Option Loc)(x:AVal)(v:Value)(ℓ:Loc):Nat→Option Loc:=
 match x,v with
 | .list ..,.slice (some ad) _ _=>own1 ω ad.block ℓ
 | .pend _,.pointer (some ad)=>own1 ω ad.block ℓ
 |_,_=>ω
theorem kc {B ℓ0 ℓ ℓ' x z cv u}(h0:OwnV C ω w B ℓ0 x cv)(hne:ℓ≠ℓ0)(hz:OwnV C ω w B ℓ z u):OwnV C (qa6 ω x cv ℓ') w B ℓ z u:=by
 unfold qa6
 split
 ·rename_i ad l c
  have hω:ω ad.block=some ℓ0:=h0.1
  exact hz.other (.inl (by rw[hω];intro h;exact hne (Option.some.inj h).symm))
 ·rename_i n ad
  have hω:ω ad.block=some ℓ0:=h0.1
  exact hz.other (.inl (by rw[hω];intro h;exact hne (Option.some.inj h).symm))
 ·exact hz
theorem qdg {B ℓ0 ℓ' x cv}(h0:OwnV C ω w B ℓ0 x cv):OwnV C (qa6 ω x cv ℓ') w B ℓ' x cv:=by
 unfold qa6
 split
 ·exact⟨by simp[own1],h0.2⟩
 ·exact⟨by simp[own1],h0.2⟩
 ·rename_i h1 h2
  unfold OwnV
  split
  ·exact absurd rfl (h1 _ _ _ _ _ _ rfl)
  ·exact absurd rfl (h2 _ _ rfl)
  ·trivial
theorem ym {b cs}(h:ja hp b=some cs):hp[b]?=some (.cells cs):=by
 unfold ja at h
 split at h
 ·rename_i cs' h';cases h;exact h'
 ·cases h
theorem qa2 {b x h'}(h:jb hp b x=some h'):h'=hp.set b x:=by
 unfold jb at h
 cases hb:Nat.blt b hp.length with
 |false=>simp[hb]at h
 |true=>simpa[hb]using h.symm
theorem BoxRel.store {ω':Nat→Option Loc}{B b r off:Nat}{cs:List (AVal×Bool)}{us:List AVal}{news:List Value}{fl:List Bool}{vs:Array Value}{t:TypeId}(hfl:fl.length=us.length)(hr:RepL C us news)(h1:∀v∈news,v.oneCell'=true)
  (hl:off+us.length≤cs.length) (hsz:cs.length≤vs.size) (hold:∀j c,cs[j]?=some c→∃v,vs[j]?=some v∧v.oneCell'=true∧Rep C c.1 v∧(c.2=true→OwnV C ω' w' B (.cell b j) c.1 v))
  (hnew:∀j u v,us[j]?=some u→news[j]?=some v→fl[j]?=some true→OwnV C ω' w' B (.cell b (off+j)) u v)
  (hg:w'.heap[r]?=some (.cells (vs.toList.take off++news++vs.toList.drop (off+news.length)).toArray t (0,0))):
  BoxRel P C ω' w' B b r (.cells (cs.take off++us.zip fl++cs.drop (off+us.length))):=by
 have hnl:=hr.length
 refine⟨_,t,hg,?_,?_⟩
 ·simp;omega
 ·intro j c hc
  rw[List.append_assoc]at hc
  have e1:(List.take off cs).length=off:=by simp;omega
  have e2:(us.zip fl).length=us.length:=by simp[hfl]
  have f1:(List.take off vs.toList).length=off:=by simp;omega
  simp only[List.getElem?_toArray,List.append_assoc]
  by_cases hj:j<off
  ·rw[List.getElem?_append_left (by omega),List.getElem?_take_of_lt hj]at hc
   obtain⟨v,a1,a2,a3,a4⟩:=hold j c hc
   exact⟨v,by rw[List.getElem?_append_left (by omega),List.getElem?_take_of_lt hj,Array.getElem?_toList];exact a1,a2,a3,a4⟩
  ·rw[List.getElem?_append_right (by omega),e1]at hc
   by_cases hj2:j<off+us.length
   ·rw[List.getElem?_append_left (by omega)]at hc
    have hcl:=List.getElem?_zip_eq_some.1 hc
    obtain⟨v,a1,a2⟩:=hr.get hcl.1
    refine⟨v,by rw[List.getElem?_append_right (by omega),f1,List.getElem?_append_left (by omega)];exact a1,h1 v (List.mem_of_getElem? a1),a2,fun hf=>?_⟩
    have:=hnew (j-off) c.1 v hcl.1 a1 (by rw[hcl.2,hf])
    rw[show off+(j-off)=j from by omega]at this
    exact this
   ·rw[List.getElem?_append_right (by omega),e2,List.getElem?_drop]at hc
    rw[show off+us.length+(j-off-us.length)=j from by omega]at hc
    obtain⟨v,a1,a2,a3,a4⟩:=hold j c hc
    exact⟨v,by rw[List.getElem?_append_right (by omega),f1,List.getElem?_append_right (by omega),List.getElem?_drop,show off+news.length+(j-off-news.length)=j from by omega,Array.getElem?_toList];exact a1,a2,a3,a4⟩
theorem qtw (us:List AVal):us.zip (List.replicate us.length false)=us.map (·,false):=by
 induction us with
 |nil=>rfl
 |cons x us ih=>simp only[List.length_cons,List.replicate_succ,List.zip_cons_cons,ih,List.map_cons]
theorem qoh (m:MInv P C ω w0 C0 hp w)(e:EnvRel C ω w w0.heap.size env tmps){b r off:Nat}{cs:List (AVal×Bool)}{us:List AVal}{news:List Value}(hb:hp[b]?=some (.cells cs))(hr:C.β b=some r)(hus:RepL C us news)(h1:∀v∈news,v.oneCell'=true)(hl:off+us.length≤cs.length):
  ∃vs t,w.heap[r]?=some (.cells vs t (0,0))∧off+news.length≤vs.size ∧
   MInv P C ω w0 C0 (hp.set b (.cells (cs.take off++us.map (·,false)++cs.drop (off+us.length)))) (w.setRow r (vs.toList.take off++news++vs.toList.drop (off+news.length)).toArray) ∧
   EnvRel C ω (w.setRow r (vs.toList.take off++news++vs.toList.drop (off+news.length)).toArray) w0.heap.size env tmps:=by
 obtain⟨vs,t,hg,hsz,hold⟩:=m.box b _ r hb hr
 have hu:=qa5 hg (vs.toList.take off++news++vs.toList.drop (off+news.length)).toArray
 have hnl:=hus.length
 refine⟨vs,t,hg,by omega,m.updBox hu.upd hr _ (fun b' j y v _ h=>h) ?_,e.updβ hu.upd hr⟩
 rw[←qtw]
 refine BoxRel.store (by simp) hus h1 hl hsz (fun j c hc=>?_) (fun j u v _ _ hf=>?_) (setRow_heap w r vs _ t (0,0) hg)
 ·obtain⟨v,a1,a2,a3,a4⟩:=hold j c hc
  exact⟨v,a1,a2,a3,fun h=>(a4 h).updβ hu.upd hr⟩
 ·rw[List.getElem?_replicate]at hf;split at hf<;>cases hf
theorem qet {t te:TypeId}{n r off v vs}(hn:qy P t=some n)(hl:v.cells.toList.length=n)(hg:w.heap[r]?=some (.cells vs te (0,0)))(hfit:off+v.cells.toList.length≤vs.size)(h1:∀u∈v.cells.toList,u.oneCell'=true):
  (storeVar t ⟨r,off,none⟩ v).run P w=.ok () (w.setRow r (vs.toList.take off++v.cells.toList++vs.toList.drop (off+v.cells.toList.length)).toArray):=by
 have hst:=run_storeCells_at (P:=P) r off te v.cells.toList 0 vs w hg (by simpa using hfit) h1
 simp only[Nat.add_zero]at hst
 have:¬(v.cells.size≠n):=by simp at hl;simpa using hl
 simp only[storeVar,Sem.run_bind,j9 hn,Result.andThen_ok,this,if_false,Sem.run_ite,hst]
theorem qus (m:MInv P C ω w0 C0 hp w)(e:EnvRel C ω w w0.heap.size env a.tmps){t:TypeId}{x y x' y' n b q v cs cs' h'}(ho:o.op=.store t x y)(hn:qy P t=some n)
  (h1:ql x=some x') (h2:ql y=some y') (e1:qe env x'=some (.ptr b q)) (e2:qe env y'=some v) (hbc:ja hp b=some cs) (hvl:v.flat.length=n) (hst:zn cs q v.flat=some cs') (hset:jb hp b (.cells cs')=some h'):
  ∃w',(execOp a.eval o).run P w=.ok .skip w'∧jk P C0 w0 C a.tmps d env ⟨.undef,false,none,h'⟩ undef w':=by
 obtain⟨r,hr,hq⟩:=(qn e.rep h1 e1).ptr_inv
 unfold zn at hst
 cases hb:(Nat.ble (q+v.flat.length) cs.length&&v.flat.all qf)with
 |false=>simp[hb]at hst
 |true=>
  simp only[hb,cond_true,Option.some.injEq]at hst
  simp only[Bool.and_eq_true]at hb
  subst hst
  have ry:=qay (qn e.rep h2 e2) hb.2
  have hone:=ko ry (by simpa using hb.2)
  obtain⟨vs,te,hg,hfit,m',e'⟩:=qoh m e (ym hbc) hr ry hone (Nat.le_of_ble_eq_true hb.1)
  obtain rfl:=qa2 hset
  have hrun:=qet (P:=P) hn (by rw[ry.length,hvl]) hg hfit hone
  exact⟨_,by simp[execOp,ho,Instr.storeAt,hq,Instr.sureAddr,hrun],C,ω,Ctx.le_refl C,m',e',.undef,by simp⟩
theorem qn7 (m:MInv P C ω w0 C0 hp w)(e:EnvRel C ω w w0.heap.size env a.tmps){t:TypeId}{x y:Operand}{x' y':qz}{b q s:Nat}{v:AVal}{cs:List (AVal×Bool)}{h':qi}(ho:o.op=.store t x y)(hn:qy P t=some 1)
  (h1:ql x=some x') (h2:ql y=some y') (e1:qe env x'=some (.ptr b q)) (e2:qe env y'=some v) (hbc:ja hp b=some cs) (hv:v.isList=true) (hlt:q<cs.length) (hown:jn env y'=some s) (hset:jb hp b (.cells (cs.set q (v,true)))=some h'):
  ∃w',(execOp a.eval o).run P w=.ok .skip w'∧jk P C0 w0 C a.tmps d env ⟨.undef,false,some s,h'⟩ undef w':=by
 obtain⟨r,hr,hq⟩:=(qn e.rep h1 e1).ptr_inv
 have ry:=qn e.rep h2 e2
 obtain⟨hy',v0,hl⟩:=qdn hown
 have hv0:v0=v:=by subst hy';simp only[qe,hl]at e2;exact Option.some.inj e2
 subst hv0
 have hflat:v0.flat=[v0]:=by cases v0<;>simp[AVal.isList]at hv<;>rfl
 have hsc:qf v0=true:=by cases v0<;>simp[AVal.isList]at hv<;>rfl
 have rf:=qay ry (by rw[hflat];simpa using hsc)
 rw[hflat]at rf
 have hone:=ko rf (by simpa using hsc)
 have hcell:(a.eval y).cells.toList=[a.eval y]:=by
  have:=qfv ry hsc
  cases hh:a.eval y<;>simp[hh,Value.oneCell']at this<;>rfl
 obtain⟨cv,hc1,hc2,hc3⟩:=e s _ hl
 have hcv:a.eval y=cv:=by
  have hye:ql y=some (.tmp s):=by rw[h2,hy']
  cases y with
  |tmp t'=>simp only[ql]at hye;cases hye;simp[Act.eval,Array.getD_eq_getD_getElem?,hc1]
  |const u=>simp only[ql]at hye;split at hye<;>cases hye
  |func f=>simp[ql]at hye
  |global g=>simp[ql]at hye
 obtain⟨vs,te,hg,hsz,hold⟩:=m.box b _ r (ym hbc) hr
 have hu:=qa5 hg (vs.toList.take q++[a.eval y]++vs.toList.drop (q+1)).toArray
 have hl1:(a.eval y).cells.toList.length=1:=by rw[hcell];rfl
 have hrun:=qet (P:=P) (t:=t) (off:=q) hn hl1 hg (by omega) hone
 rw[hl1,hcell]at hrun
 obtain rfl:=qa2 hset
 have hown':=hc3 rfl
 have hkeep:∀ℓ z u,ℓ≠.slot s→OwnV C ω w w0.heap.size ℓ z u→OwnV C (qa6 ω v0 cv (.cell b q)) w w0.heap.size ℓ z u:=fun ℓ z u hℓ hz=>kc hown' hℓ hz
 have hnew:OwnV C (qa6 ω v0 cv (.cell b q)) w w0.heap.size (.cell b q) v0 cv:=qdg hown'
 have hcs:cs.take q++[(v0,true)]++cs.drop (q+1)=cs.set q (v0,true):=by
  rw[List.set_eq_take_append_cons_drop,if_pos hlt];simp
 refine⟨w.setRow r (vs.toList.take q++[a.eval y]++vs.toList.drop (q+1)).toArray,by simp only[execOp,ho,Instr.storeAt,Sem.run_bind,hq,Instr.sureAddr,Sem.run_pure,Result.andThen_ok,hrun],C,qa6 ω v0 cv (.cell b q),Ctx.le_refl C,?_,?_,.undef,by simp⟩
 ·refine m.updBox hu.upd hr _ (fun b' j z u hb' hz=>hkeep _ z u (by simp) hz) ?_
  rw[←hcs]
  have hz:[(v0,true)]=[v0].zip [true]:=rfl
  rw[hz]
  refine BoxRel.store (us:=[v0]) (fl:=[true]) (news:=[a.eval y]) rfl (by rw[←hcell];exact rf) (by rw[←hcell];exact hone) (by simp;omega) hsz (fun j c hc=>?_) (fun j u v hu1 hv1 _=>?_) (setRow_heap w r vs _ te (0,0) hg)
  ·obtain⟨v,a1,a2,a3,a4⟩:=hold j c hc
   exact⟨v,a1,a2,a3,fun h=>(hkeep _ _ _ (by simp) (a4 h)).updβ hu.upd hr⟩
  ·cases j with
   |zero=>
    simp at hu1 hv1
    subst hu1;subst hv1
    have h3:=hnew.updβ hu.upd hr
    exact hcv▸h3
   |succ j=>simp at hu1
 ·intro t' x' hx'
  by_cases hts:t'=s
  ·subst hts
   simp only[jt,hl,qv,Nat.beq_refl,cond_true]at hx'
   cases hx'
   exact⟨cv,hc1,hc2,by simp⟩
  ·have hx2:qv t' env=some x':=by
    simp only[jt,hl,qv]at hx'
    have:Nat.beq s t'=false:=by
     cases hb:Nat.beq s t' with
     |false=>rfl
     |true=>exact absurd (Nat.eq_of_beq_eq_true hb).symm hts
    rw[this]at hx'
    exact hx'
   obtain⟨u,k1,k2,k3⟩:=e t' x' hx2
   exact⟨u,k1,k2,fun h=>(hkeep _ _ _ (by simp[hts]) (k3 h)).updβ hu.upd hr⟩
end
section
variable {P:Program}{C C0:Ctx}{ω:Nat→Option Loc}{w w' w0:World}{hp:qi}{env:Env}{a:Act}{o:Oper}{tmps:Array Value}{d:Loc}
theorem qmm {s v ow}(hl:qv s env=some (v,ow)){t x}(hx:qv t (jt env (some s))=some x):(t=s∧x=(v,false))∨(t≠s∧qv t env=some x):=by
 simp only[jt,hl,qv]at hx
 cases hb:Nat.beq s t with
 |true=>
  simp only[hb,cond_true,Option.some.injEq]at hx
  exact .inl ⟨(Nat.eq_of_beq_eq_true hb).symm,hx.symm⟩
 |false=>
  simp only[hb,cond_false]at hx
  refine .inr ⟨fun h=>?_,hx⟩
  subst h
  simp at hb
theorem qvu (m:MInv P C ω w0 C0 hp w)(e:EnvRel C ω w w0.heap.size env a.tmps){s v ow}(ho:o.op=.move (.tmp s)∨o.op=.assign (.tmp s))(hl:qv s env=some (v,ow)):
  ∃u w',(execOp a.eval o).run P w=.ok (.value u) w'∧jk P C0 w0 C a.tmps d env ⟨v,ow,some s,hp⟩ u w':=by
 obtain⟨cv,h1,h2,h3⟩:=e s _ hl
 have hev:a.eval (.tmp s)=cv:=by simp[Act.eval,Array.getD_eq_getD_getElem?,h1]
 have hrun:(execOp a.eval o).run P w=.ok (.value cv) w:=by rcases ho with ho|ho<;>simp[execOp,ho,hev]
 refine⟨cv,w,hrun,?_⟩
 by_cases hk:ow=true
 ·subst hk
  have hown:=h3 rfl
  refine⟨C,qa6 ω v cv d,Ctx.le_refl C,?_,?_,h2,fun _=>qdg hown⟩
  ·exact { m with box:=fun b x r hx hb=>(m.box b x r hx hb).mono (Ctx.le_refl C) fun j y u hz=>kc hown (by simp) hz }
  ·intro t x hx
   rcases qmm hl hx with⟨rfl,rfl⟩|⟨hne,hx'⟩
   ·exact⟨cv,h1,h2,by simp⟩
   ·obtain⟨u,k1,k2,k3⟩:=e t x hx'
    exact⟨u,k1,k2,fun h=>kc hown (by simpa using hne) (k3 h)⟩
 ·refine⟨C,ω,Ctx.le_refl C,m,e.strip _,h2,fun h=>absurd h hk⟩
theorem qn6 (m:MInv P C ω w0 C0 hp w)(e:EnvRel C ω w w0.heap.size env a.tmps){t:TypeId}{x x' b q v ow cs h'}(ho:o.op=.load t x)(hag:zb P t=some false)
  (h1:ql x=some x') (e1:qe env x'=some (.ptr b q)) (hbc:ja hp b=some cs) (hc:cs[q]?=some (v,ow)) (hset:jb hp b (.cells (cs.set q (v,false)))=some h'):
  ∃u w',(execOp a.eval o).run P w=.ok (.value u) w'∧jk P C0 w0 C a.tmps d env ⟨v,ow,none,h'⟩ u w':=by
 obtain⟨r,hr,hq⟩:=(qn e.rep h1 e1).ptr_inv
 obtain⟨vs,te,hg,hsz,hold⟩:=m.box b _ r (ym hbc) hr
 obtain⟨cv,k1,k2,k3,k4⟩:=hold q _ hc
 obtain rfl:=qa2 hset
 have hcell:w.cell? ⟨r,q,none⟩=some cv:=by
  simp only[World.cell?,hg]
  simpa using k1
 have hrun:(execOp a.eval o).run P w=.ok (.value cv) w:=by
  simp[execOp,ho,hq,Instr.loadAt,Instr.sureAddr,qbs hag hcell]
 have hu:Upd w w r:=⟨rfl,fun _ _=>rfl,fun c t fr h=>by rw[hg]at h;cases h;rfl,rfl,rfl⟩
 have hbox:∀ω':Nat→Option Loc,(∀j c u,j≠q→OwnV C ω w w0.heap.size (.cell b j) c u→OwnV C ω' w w0.heap.size (.cell b j) c u)→BoxRel P C ω' w w0.heap.size b r (.cells (cs.set q (v,false))):=by
  intro ω' hk
  refine⟨vs,te,hg,by simpa using hsz,fun j c hj=>?_⟩
  rw[List.getElem?_set]at hj
  split at hj
  ·rename_i hqj
   subst hqj
   split at hj
   ·cases hj;exact⟨cv,k1,k2,k3,by simp⟩
   ·cases hj
  ·rename_i hqj
   obtain⟨u,a1,a2,a3,a4⟩:=hold j c hj
   exact⟨u,a1,a2,a3,fun h=>hk _ _ _ (Ne.symm hqj) (a4 h)⟩
 refine⟨cv,w,hrun,?_⟩
 by_cases hk:ow=true
 ·subst hk
  have hown:=k4 rfl
  refine⟨C,qa6 ω v cv d,Ctx.le_refl C,?_,?_,k3,fun _=>qdg hown⟩
  ·exact m.updBox hu hr _ (fun b' j y u hb' hz=>kc hown (by simp[hb']) hz) (hbox _ fun j c u hj hz=>kc hown (by simp[hj]) hz)
  ·exact fun t x hx=>let ⟨u,k1,k2,k3⟩:=e t x hx; ⟨u,k1,k2,fun h=>kc hown (by simp) (k3 h)⟩
 ·refine⟨C,ω,Ctx.le_refl C,m.updBox hu hr _ (fun _ _ _ _ _ h=>h) (hbox _ fun _ _ _ _ h=>h),e,k3,fun h=>absurd h hk⟩
end
section
variable {P:Program}{C C0:Ctx}{ω:Nat→Option Loc}{w w' w0:World}{hp:qi}{env:Env}{a:Act}{o:Oper}{tmps:Array Value}{d:Loc}
theorem qli (m:MInv P C ω w0 C0 hp w)(e:EnvRel C ω w w0.heap.size env a.tmps){t el:TypeId}{x y:Operand}{x' y':qz}{n sz b h0 rk:Nat}{z h'}
  (ho:o.op=.makeSlice t x y) (ht:P.underlying t=some (.slice el)) (hn:qy P el=some sz) (hb:kz P el=some b) (hz:zd P el=some z) (h00:0<sz) (hzl:z.length=sz)
  (h1:ql x=some x') (h2:ql y=some y') (e1:qe env x'=some (.int .i64 (n:Int))) (e2:qe env y'=some (.int .i64 (n:Int))) (hle:n≤1073741824) (hbl:b≤4096)
  (hnew:newBox h0 hp rk (.cells (cellsOf (List.replicate n z).flatten))=some h'):
  ∃v w',(execOp a.eval o).run P w=.ok (.value v) w'∧jk P C0 w0 C a.tmps d env ⟨.ms (h0+rk) 0 n,false,none,h'⟩ v w':=by
 obtain⟨hh,rfl⟩:=zj hnew
 obtain⟨hzs,zv,hzr,hzrep,hz1⟩:=yh (C:=C) hz
 have hzsz:zv.cells.toList.length=sz:=by rw[hzrep.length,hzl]
 have hinit:((Array.range (n*sz)).map (fun i=>zv.cells[i % zv.cells.size]!)).toList=(List.replicate n zv.cells.toList).flatten:=by
  have:=qbb hzsz h00 n
  simpa using this
 have r1:=(qn e.rep h1 e1).int_inv
 have r2:=(qn e.rep h2 e2).int_inv
 have hrep:RepL C (List.replicate n z).flatten ((Array.range (n*sz)).map (fun i=>zv.cells[i % zv.cells.size]!)).toList:=by
  rw[hinit];exact hzrep.replicate n
 obtain⟨i,hi,hib⟩:∃i,P.info? el=some i∧i.bytes=b:=by
  unfold kz at hb
  cases hi:P.info? el with
  |none=>simp[hi]at hb
  |some i=>exact⟨i,rfl,by simpa[hi]using hb⟩
 have hsi:i.size=sz:=by
  unfold qy at hn
  rw[hi]at hn
  simpa using hn
 have hwrap:IntKind.i64.wrap (n:Int)=n:=by
  rw[←qax];unfold qa
  have:qbg .i64 (n:Int)=true:=by simp[qbg];exact Nat.le_trans hle (by decide)
  rw[this];rfl
 have hbn:b*n≤281474976710656:=Nat.le_trans (Nat.mul_le_mul hbl hle) (by decide)
 obtain⟨m',e',hle'⟩:=m.newBox e hh (.cells ((Array.range (n*sz)).map (fun i=>zv.cells[i % zv.cells.size]!)) el) (fun c t fr h=>by cases h;rfl) (.cells (cellsOf (List.replicate n z).flatten))
  (qg0 hrep (by
   intro x h
   rw[List.mem_flatten]at h
   obtain⟨l,q1,q2⟩:=h
   obtain⟨_,rfl⟩:=List.mem_replicate.1 q1
   exact hzs x q2) (by intro j v h;rw[Array.getElem?_toList]at h;exact h) (by have:=hrep.length;simp at this;simp;omega))
 refine⟨.slice (some ⟨w.heap.size,0,none⟩) n n,w.alloc (.cells ((Array.range (n*sz)).map (fun i=>zv.cells[i % zv.cells.size]!)) el),?_,_,_,hle',m',e',.ms _ _ _ _ _ (by simp[Ctx.box]) (Nat.le_refl _),by simp⟩
 have c1:¬((b:Int)*(n:Int) > 2^48):=by
  have h1:((b*n:Nat):Int)≤281474976710656:=Int.ofNat_le.2 hbn
  rw[Int.natCast_mul]at h1
  have h2:(2:Int)^48=281474976710656:=by decide
  rw[h2];omega
 have c2:¬((n:Int)<0):=by omega
 have hr:Array.range 0=#[]:=rfl
 simp only[execOp,ho,Instr.makeSlice,Sem.run_bind,run_underlying ht,r1,r2,asInt,asIntOf,Sem.run_pure,Result.andThen_ok,typeInfo,run_program,hi,hib,hwrap,c2,c1,decide_false,Bool.or_false,Bool.false_eq_true,if_false,Int.lt_irrefl,gt_iff_lt,run_askRoom,Int.toNat_natCast,j9 hn,newRow]
 by_cases hn0:n=0
 ·subst hn0
  simp[hr]
 ·have hne:¬(n*sz=0):=by
   intro h
   rcases Nat.mul_eq_zero.1 h with h|h<;>omega
  simp[hne,hzr]
theorem q67 (m:MInv P C ω w0 C0 hp w)(e:EnvRel C ω w w0.heap.size env tmps){b r s cells}{t:TypeId}{us news}(hh:hp[b]?=some .hole)(hω:ω r=some (.slot s))(hB:w0.heap.size≤r∨C.W r)(hβ:∀b,C.β b≠some r)
  (hg:w.heap[r]?=some (.cells cells t (0,0))) (hK:∀o,C.K r o=none) (hfit:news.length≤cells.size) (hus:RepL C us news) (hone:∀v∈news,v.oneCell'=true):
  MInv P (C.box b r) ω w0 C0 (hp.set b (.cells (cellsOf us))) (w.setRow r (cells.toList.take 0++news++cells.toList.drop (0+news.length)).toArray) ∧
  EnvRel (C.box b r) ω (w.setRow r (cells.toList.take 0++news++cells.toList.drop (0+news.length)).toArray) w0.heap.size (jt env (some s)) tmps∧C.le (C.box b r):=by
 have hu:=qa5 hg (cells.toList.take 0++news++cells.toList.drop (0+news.length)).toArray
 have hgat:=setRow_heap w r cells (cells.toList.take 0++news++cells.toList.drop (0+news.length)).toArray t (0,0) hg
 generalize w.setRow r (cells.toList.take 0++news++cells.toList.drop (0+news.length)).toArray=w' at hu hgat
 have hβb:=qdr m hh
 have hle:=Ctx.box_le (C:=C) (r:=r) hβb
 have hlt:b<hp.length:=(List.getElem?_eq_some_iff.1 hh).1
 have hrlt:r<w.heap.size:=(Array.getElem?_eq_some_iff.1 hg).1
 have hown:∀ℓ x v,ℓ≠.slot s→OwnV C ω w w0.heap.size ℓ x v→OwnV (C.box b r) ω w' w0.heap.size ℓ x v:=by
  intro ℓ x v hℓ ho
  have hne:ω r≠some ℓ:=by rw[hω];intro h;exact hℓ (Option.some.inj h).symm
  exact(ho.box (.inr hne)).upd hu hne
 refine⟨?_,?_,hle⟩
 ·refine { base:=m.base,know:=?_,kone:=m.kone,apart:=?_,inj:=?_,lt:=?_,size:=?_,frame:=?_,dfr:=?_,os:=hu.os.trans m.os,output:=hu.output.trans m.output,fresh:=?_,grown:=Ctx.le_trans m.grown hle,old:=m.old,box:=?_,tlt:=fun q hq=>by rw[hu.size];exact m.tlt q hq }
  ·intro k q v hk
   have hkr:k≠r:=fun h=>by
    have hk':C.K k q=some v:=hk
    rw[h,hK q]at hk';cases hk'
   have hc:=m.know _ _ _ hk
   simp only[World.cell?]at hc ⊢
   rw[hu.other k hkr];exact hc
  ·intro k q p hk
   simp only[Ctx.box]at hk
   split at hk
   ·cases hk;exact hK p
   ·exact m.apart k q p hk
  ·intro k k' q hk hk'
   simp only[Ctx.box]at hk hk'
   split at hk<;>split at hk'
   ·rename_i h1 h2;rw[h1,h2]
   ·cases hk;exact absurd hk' (hβ k')
   ·cases hk';exact absurd hk (hβ k)
   ·exact m.inj k k' q hk hk'
  ·intro k q hk
   rw[List.length_set,hu.size]
   simp only[Ctx.box]at hk
   split at hk
   ·rename_i h1;cases hk;subst h1;exact⟨hrlt,hlt⟩
   ·exact m.lt k q hk
  ·rw[hu.size];exact m.size
  ·intro k hk hn hw
   have hkr:k≠r:=fun h=>by
    subst h
    rcases hB with h|h
    ·omega
    ·rw[m.grown.w]at h;exact hw h
   rw[hu.other k hkr];exact m.frame k hk hn hw
  ·intro k hk
   have hkr:k≠r:=fun h=>by
    subst h
    have:=m.dfr k hk
    rw[hg]at this;cases this
   rw[hu.other k hkr];exact m.dfr k hk
  ·intro k q hk
   simp only[Ctx.box]at hk
   split at hk
   ·cases hk
    rcases hB with h|h
    ·exact .inr (.inl h)
    ·rw[m.grown.w]at h;exact .inr (.inr h)
   ·exact m.fresh k q hk
  ·intro k x q hx hk
   simp only[Ctx.box]at hk
   split at hk
   ·rename_i h1
    subst h1
    cases hk
    rw[List.getElem?_set_self hlt]at hx
    cases hx
    have hnl:=hus.length
    refine⟨_,t,hgat,by simp[cellsOf];omega,?_⟩
    intro j c hc
    simp only[cellsOf,List.getElem?_map,Option.map_eq_some_iff]at hc
    obtain⟨x,hx,rfl⟩:=hc
    obtain⟨v,h1,h2⟩:=hus.get hx
    have hj:j<news.length:=(List.getElem?_eq_some_iff.1 h1).1
    refine⟨v,?_,hone v (List.mem_of_getElem? h1),RepI.mono hle h2,by simp⟩
    simp only[List.take_zero,List.nil_append,List.getElem?_toArray]
    rw[List.getElem?_append_left hj];exact h1
   ·rename_i h1
    rw[List.getElem?_set_ne (Ne.symm h1)]at hx
    have hne:q≠r:=fun h=>hβ k (h▸hk)
    have hb1:BoxRel P C ω w' w0.heap.size k q x:=(m.box k x q hx hk).upd hu hne (fun j=>by rw[hω];simp)
    exact hb1.mono hle fun j y v ho=>ho.box (.inr (by rw[hω];simp))
 ·intro t' x hx
  by_cases hts:t'=s
  ·subst hts
   simp only[jt]at hx
   cases hl:qv t' env with
   |none=>rw[hl]at hx;simp only[hl]at hx;cases hx
   |some y=>
    rw[hl]at hx
    simp only[qv,Nat.beq_refl,cond_true]at hx
    cases hx
    obtain⟨v,h2,h3,_⟩:=e t' y hl
    exact⟨v,h2,RepI.mono hle h3,by simp⟩
  ·have hx':qv t' env=some x:=by
    simp only[jt]at hx
    cases hl:qv s env with
    |none=>rw[hl]at hx;exact hx
    |some y=>
     rw[hl]at hx
     simp only[qv]at hx
     have:Nat.beq s t'=false:=by
      cases hb:Nat.beq s t' with
      |false=>rfl
      |true=>exact absurd (Nat.eq_of_beq_eq_true hb).symm hts
     rw[this]at hx
     exact hx
   obtain⟨v,h2,h3,h4⟩:=e t' x hx'
   exact⟨v,h2,RepI.mono hle h3,fun h=>hown _ _ _ (by simp[hts]) (h4 h)⟩
theorem qqe {xs vs}{t:TypeId}{B b r cells}(hr:RepL C xs vs)(hone:∀v∈vs,v.oneCell'=true)(hv:∀(j:Nat) v,vs[j]?=some v→cells[j]?=some v)(hl:xs.length≤cells.size):
  ∀C' ω' w',C.le C'→w'.heap[r]?=some (.cells cells t (0,0))→BoxRel P C' ω' w' B b r (.cells (cellsOf xs)):=by
 intro C' ω' w' hle hg
 refine⟨cells,t,hg,by simpa[cellsOf]using hl,?_⟩
 intro j c hc
 simp only[cellsOf,List.getElem?_map,Option.map_eq_some_iff]at hc
 obtain⟨x,hx,rfl⟩:=hc
 obtain⟨v,h1,h2⟩:=hr.get hx
 exact⟨v,hv j v h1,hone v (List.mem_of_getElem? h1),RepI.mono hle h2,by simp⟩
theorem qmv (m:MInv P C ω w0 C0 hp w)(e:EnvRel C ω w w0.heap.size env a.tmps){c}{t u el:TypeId}{ut:TypeDesc}{x y x' y' sz b h0 rk n sz' ys vy h'}
  (ho:o.op=.call c) (hcb:c.callee=.builtin .append) (hca:c.args.toList=[x,y]) (hct:c.argTypes.toList=[t,u]) (ht:P.underlying t=some (.slice el)) (hu:P.underlying u=some ut) (hut:qau ut=true)
  (hn:qy P el=some sz) (hb:kz P el=some b) (h1:ql x=some x') (h2:ql y=some y') (e1:qe env x'=some (.list n sz' [])) (e2:qe env y'=some vy) (hsrc:jx sz vy=some ys)
  (hown:(jn env x').isSome=true) (hnn:n=false) (hlen:ys.length≤1073741824) (hbl:b≤4096) (hzero:∃z,zd P el=some z∧z.length=sz) (hszs:sz=sz')
  (hnew:newBox h0 hp rk (.cells (cellsOf (ys.flatMap AVal.flat)))=some h'):
  ∃v w',(execOp a.eval o).run P w=.ok (.value v) w'∧jk P C0 w0 C a.tmps d env ⟨.ms (h0+rk) 0 ys.length,false,jn env x',h'⟩ v w':=by
 obtain⟨hh,rfl⟩:=zj hnew
 subst hnn
 subst hszs
 have ha:c.args=#[x,y]:=by apply Array.ext';simpa using hca
 have hty:c.argTypes=#[t,u]:=by apply Array.ext';simpa using hct
 obtain⟨i,hi,hib⟩:∃i,P.info? el=some i∧i.bytes=b:=by
  unfold kz at hb
  cases hi:P.info? el with
  |none=>simp[hi]at hb
  |some i=>exact⟨i,rfl,by simpa[hi]using hb⟩
 have hsi:i.size=sz:=by
  unfold qy at hn;rw[hi]at hn;simpa using hn
 obtain⟨z,hz,hzl0⟩:=hzero
 obtain⟨zv,hzv⟩:∃zv,i.zero=some zv:=by
  unfold zd at hz;rw[hi]at hz
  cases hq:i.zero with
  |none=>simp[hq]at hz
  |some v=>exact⟨v,rfl⟩
 have rx:=qn e.rep h1 e1
 have ry:=qn e.rep h2 e2
 obtain⟨news,hs,hnews,hysz,hone⟩:=qkt m hu hut hsrc ry
 have hrunE:∀ {z:Value} {w':World},(Builtin.append_ #[t,u] o.type #[a.eval x,a.eval y]).run P w=.ok z w'→(execOp a.eval o).run P w=.ok (.value z) w':=by
  intro z w' h
  simp[execOp,ho,resolve,hcb,ha,hty,invoke,builtin,h]
 have hnl:news.length=ys.length*sz:=by rw[hnews.length,z6 ys hysz]
 rcases rx.list_inv with⟨hh1,_,_⟩|⟨_,r,q,cap,hx,hle,hrow⟩|⟨_,_,ad,hsp,hx⟩
 rotate_right
 ·exact absurd (qol e h1 hown e1 hx) hsp
 ·cases hh1
 ·obtain⟨s,hs'⟩:=Option.isSome_iff_exists.1 hown
  obtain⟨hx',v0,hl⟩:=qdn hs'
  have hv0:v0=.list false sz []:=by
   subst hx'
   simp only[qe,hl]at e1
   exact Option.some.inj e1
  subst hv0
  obtain⟨cv,hc1,hc2,hc3⟩:=e s _ hl
  have hcv:cv=.slice (some ⟨r,q,none⟩) 0 cap:=by
   have hxe:ql x=some (.tmp s):=by rw[h1,hx']
   cases x with
   |tmp t'=>
    simp only[ql]at hxe
    cases hxe
    have:a.eval (.tmp s)=cv:=by simp[Act.eval,Array.getD_eq_getD_getElem?,hc1]
    rw[←this,hx];rfl
   |const u=>simp only[ql]at hxe;split at hxe<;>cases hxe
   |func f=>simp[ql]at hxe
   |global g=>simp[ql]at hxe
  subst hcv
  obtain⟨hω,hB,hβ,_,hq0,⟨cells,te,hg,hfit⟩,hK⟩:=hc3 rfl
  simp only at hω hB hβ hg hfit hK hq0
  subst hq0
  simp only[List.length_nil]at hx
  by_cases hroom:0+ys.length≤cap
  ·have hcapsz:(0+ys.length)*sz≤cap*sz:=Nat.mul_le_mul_right _ hroom
   have hrun:=qa9 (P:=P) (w:=w) (ty:=o.type) ht hi r 0 0 cap (a.eval y) ys.length news (hsi▸hs) hroom hg (by rw[hnl];simp at hcapsz hfit ⊢;omega)
   rw[←hx]at hrun
   have e0:0+0*i.size=0:=by simp
   rw[e0]at hrun
   obtain⟨m',e',hle'⟩:=q67 (tmps:=a.tmps) m e hh hω hB hβ hg (fun o=>hK o (by simp)) (by rw[hnl];simp at hcapsz hfit ⊢;omega) hnews hone
   rw[hs']
   refine⟨_,_,hrunE hrun,_,_,hle',m',e',?_,by simp⟩
   have:=RepI.ms (C:=C.box (h0+rk) r) (h0+rk) 0 ys.length r cap (by simp[Ctx.box]) (by omega)
   simpa using this
  ·have hfit':Builtin.nextslicecap (0+ys.length) cap*i.bytes≤281474976710656:=growslice_fits (by omega) (by
    rw[hib]
    exact Nat.le_trans (Nat.mul_le_mul (by omega) hbl) (by decide:2^30*4096≤_))
   have hrun:=run_append_grow_src w t u o.type el i zv ht hi hzv (some ⟨r,0,none⟩) 0 cap [] (run_firstCells_some _ _ _ _ _ _ [] (by simp) (by simp)) (a.eval y) ys.length news (hsi▸hs) (by omega) (by omega) hfit'
   rw[←hx]at hrun
   have hge:=grownCap_ge w (0+ys.length) cap el
   have hx2:Ext w w.drew:=Ext.drew w
   obtain⟨m',e',hle'⟩:=(m.ext hx2).newBox (e.ext hx2) hh (.cells (([]++news).toArray++Builtin.zeroCells zv.cells (grownCap w (0+ys.length) cap el-(0+ys.length))) el) (fun c t fr h=>by cases h;rfl) (.cells (cellsOf (ys.flatMap AVal.flat)))
    (qqe hnews hone (by
     intro j v hj
     rw[Array.getElem?_append_left (by simpa using(List.getElem?_eq_some_iff.1 hj).1)]
     simpa using hj) (by have h5:=hnews.length;rw[Array.size_append];simp only[List.nil_append,List.size_toArray];omega))
   refine⟨_,_,hrunE hrun,_,_,hle',m',e'.strip _,?_,by simp⟩
   have:=RepI.ms (C:=C.box (h0+rk) w.drew.heap.size) (h0+rk) 0 ys.length w.drew.heap.size (grownCap w (0+ys.length) cap el) (by simp[Ctx.box]) (by omega)
   simpa using this
end
section
variable {P:Program}{C C0:Ctx}{ω:Nat→Option Loc}{w w' w0:World}{hp:qi}{env:Env}{a:Act}{o:Oper}{tmps:Array Value}{d:Loc}
theorem qgr {b ver len v}(h:Rep C (.vref b ver len) v):∃r0 r cap,C.β b=some r0∧C.T (r0,ver,r,cap)∧len≤cap∧v=.slice (some ⟨r,0,none⟩) len cap:=by
 cases h with
 |vref _ _ _ r0 r cap hb ht hl=>exact⟨r0,r,cap,hb,ht,hl,rfl⟩
theorem qqx {b ver off v}(h:Rep C (.vel b ver off) v):∃r0 r cap,C.β b=some r0∧C.T (r0,ver,r,cap)∧v=.pointer (some ⟨r,off,none⟩):=by
 cases h with
 |vel _ _ _ r0 r cap hb ht=>exact⟨r0,r,cap,hb,ht,rfl⟩
theorem qlw {t:TypeId}{x x' i fs f n b ver q}(he:EnvRep C env a.tmps)(ho:o.op=.fieldAddr t x i)(ht:P.underlying t=some (.struct fs))(hf:fs[i]?=some f)
  (hn:qy P f.type=some n) (hn0:0<n) (h1:ql x=some x') (e1:qe env x'=some (.vel b ver q)):Val P C a o w (.vel b ver (q+f.offset)):=by
 obtain⟨r0,r,cap,hb,hT,hq⟩:=qqx (qn he h1 e1)
 refine⟨.pointer (some ⟨r,q+f.offset,none⟩),?_,.vel _ _ _ r0 r cap hb hT⟩
 simp[execOp,ho,Instr.fieldAt,run_underlying ht,hf,hq,Instr.sureAddr,fieldPlace,j9 hn,Nat.pos_iff_ne_zero.1 hn0,add_lit]
theorem qk7 {t e:TypeId}{x i x' i' sz iv b ver len j}(he:EnvRep C env a.tmps)(ho:o.op=.indexAddr t x i)(ht:P.underlying t=some (.slice e))
  (hn:qy P e=some sz) (h1:ql x=some x') (h2:ql i=some i') (e1:qe env x'=some (.vref b ver len)) (e2:qe env i'=some iv) (hj:idx len iv=some j):Val P C a o w (.vel b ver (j*sz)):=by
 obtain⟨r0,r,cap,hb,hT,_,hq⟩:=qgr (qn he h1 e1)
 obtain⟨k,rfl,hlt⟩:=qgc hj
 have hi:=(qn he h2 e2).int_inv
 refine⟨.pointer (some ⟨r,j*sz,none⟩),?_,.vel _ _ _ r0 r cap hb hT⟩
 simp[execOp,ho,Instr.indexAt,run_underlying ht,hq,hi,asIntOf,j9 hn,hlt,add_lit]
theorem qsz {t e:TypeId}{x lo hi x' lo' hi' sz j b ver len}(he:EnvRep C env a.tmps)(ho:o.op=.slice t x lo hi none)(ht:P.underlying t=some (.slice e))
  (hn:qy P e=some sz) (h1:ql x=some x') (h2:qav lo=some lo') (h3:qav hi=some hi') (e1:qe env x'=some (.vref b ver len)) (b2:bnd env len len hi'=some j) (b1:bnd env 0 j lo'=some 0):Val P C a o w (.vref b ver j):=by
 obtain⟨r0,r,cap,hb,hT,hl,hq⟩:=qgr (qn he h1 e1)
 obtain⟨hbr,k1,k2⟩:=qgy (P:=P) (isS:=true) he h2 h3 b2 b1 hl w
 refine⟨.slice (some ⟨r,0,none⟩) j cap,?_,.vref _ _ _ r0 r cap hb hT (by omega)⟩
 simp[execOp,ho,Instr.sliceAt,Instr.slice,run_underlying ht,hq,hbr,j9 hn,add_lit]
theorem qwv {c x}{t e:TypeId}{x' b ver n}(he:EnvRep C env a.tmps)(ho:o.op=.call c)(hcb:c.callee=.builtin .len)(hca:c.args.toList=[x])(hct:c.argTypes.toList=[t])
  (h1:ql x=some x') (e1:qe env x'=some (.vref b ver n)) (ht:P.underlying t=some (.slice e)):Val P C a o w (.int .i64 n):=by
 have ha:c.args=#[x]:=by apply Array.ext';simpa using hca
 have hty:c.argTypes=#[t]:=by apply Array.ext';simpa using hct
 refine⟨.int .i64 n,?_,.int _ _⟩
 simp only[execOp,ho,resolve,hcb,ha,hty,Sem.run_bind,Sem.run_pure,Result.andThen_ok,invoke,builtin,Builtin.len_]
 obtain⟨r0,r,cap,_,_,_,hq⟩:=qgr (qn he h1 e1)
 simp[run_underlying ht,hq,goInt]
theorem qvr (m:MInv P C ω w0 C0 hp w){b ver q cap r0 sz xs}(hb:C.β b=some r0)(hT:C.T (r0,ver,q,cap))(hbx:hp[b]?=some (.vec sz ver xs)):
  ∃vs,RepL C (xs.flatMap AVal.flat) vs∧(∀(j:Nat) v,vs[j]?=some v→w.cell? ⟨q,j,none⟩=some v∧v.oneCell'=true)∧VecIs C.K w q sz xs cap:=by
 obtain⟨q',cap',k1,k2,k3,k4,_⟩:=m.box b _ r0 hbx hb
 have heq:=(k2 _ hT rfl).2 rfl
 simp only[Prod.mk.injEq]at heq
 obtain⟨rfl,rfl⟩:=heq
 obtain⟨cells,t,vs,g1,g2,g3,g4,g5,g6,g7⟩:=id k3
 refine⟨vs,RepI.imp (C:=.iso C.K) (C':=C) ⟨fun _ _ _ h=>h,fun b r h=>by cases h⟩ g5 (fun _ h=>h.elim),fun j v hj=>⟨?_,g7 v (List.mem_of_getElem? hj)⟩,k3⟩
 unfold World.cell?
 rw[g1]
 simp only[Option.isSome_none,Bool.false_eq_true,if_false]
 exact g6 j v hj
theorem ql1 (m:MInv P C ω w0 C0 hp w)(he:EnvRep C env a.tmps){t:TypeId}{x x' n ag b ver q sz xs v}(ho:o.op=.load t x)(hg:zb P t=some ag)(hn:qy P t=some n)(h1:ql x=some x')(e1:qe env x'=some (.vel b ver q))
  (hbx:hp[b]?=some (.vec sz ver xs)) (hl:q+n≤(xs.flatMap AVal.flat).length) (hv:(ag=true∧v=.agg (((xs.flatMap AVal.flat).drop q).take n))∨(ag=false∧((xs.flatMap AVal.flat).drop q).take n=[v])):Val P C a o w v:=by
 obtain⟨r0,r,cap,hb,hT,hq⟩:=qqx (qn he h1 e1)
 obtain⟨vs,k1,k2,_⟩:=qvr m hb hT hbx
 have k3:RepL C (((xs.flatMap AVal.flat).drop q).take n) ((vs.drop q).take n):=(k1.drop q).take n
 have k4:∀j u,((vs.drop q).take n)[j]?=some u→w.cell? ⟨r,q+j,none⟩=some u:=by
  intro j u hj
  rw[List.getElem?_take]at hj
  split at hj
  ·rw[List.getElem?_drop]at hj;exact(k2 _ _ hj).1
  ·cases hj
 have k5:((vs.drop q).take n).length=n:=by rw[k3.length,List.length_take,List.length_drop];omega
 rcases hv with⟨rfl,rfl⟩|⟨rfl,hv⟩
 ·exact⟨.agg ⟨(vs.drop q).take n⟩,by simp[execOp,ho,Instr.loadAt,hq,Instr.sureAddr,qbt hg hn k5 k4],.agg _ _ k3⟩
 ·rw[hv]at k3
  generalize hgen:(vs.drop q).take n=us at k3 k4 k5
  cases k3 with
  |cons _ _ u us hu hnil=>
   cases hnil
   refine⟨u,?_,hu⟩
   have:=qbs (P:=P) hg (by simpa using k4 0 u rfl)
   simp[execOp,ho,Instr.loadAt,hq,Instr.sureAddr,this]
def Ctx.tok (C:Ctx)(x:Nat×Nat×Nat×Nat):Ctx:={ C with T:=fun q=>C.T q∨q=x }
theorem Ctx.tok_le {x}:C.le (C.tok x):=⟨fun _ _ _ h=>h,fun _ _ h=>h,rfl,fun _ h=>h,fun _ h=>.inl h⟩
theorem OwnV.tok {x B ℓ y v}(h:OwnV C ω w B ℓ y v):OwnV (C.tok x) ω w B ℓ y v:=by
 unfold OwnV at *
 exact h
theorem EnvRel.tok {x B}(e:EnvRel C ω w B env tmps):EnvRel (C.tok x) ω w B env tmps:=
 fun s y hy=>let ⟨v,h1,h2,h3⟩:=e s y hy; ⟨v,h1,RepI.mono Ctx.tok_le h2,fun h=>(h3 h).tok⟩
theorem MInv.toVec (m:MInv P C ω w0 C0 hp w){b r sz ver q cap xs}(hβ:C.β b=some r)(hT:∀x,C.T x→x.1=r→x.2.1<ver)(hv:VecIs C.K w q sz xs cap)(ho:q=r∨qdo C ω w w0.heap.size b q xs.length cap)(hr:∃cs t,w.heap[r]?=some (.cells cs t (0,0))):
  MInv P (C.tok (r,ver,q,cap)) ω w0 C0 (hp.set b (.vec sz ver xs)) w:=by
 have hlt:=m.lt b r hβ
 refine { m with lt:=fun k p hk=>by rw[List.length_set];exact m.lt k p hk,grown:=Ctx.le_trans m.grown Ctx.tok_le,box:=?_,tlt:=?_ }
 ·intro k y p hy hk
  by_cases hkb:k=b
  ·subst hkb
   rw[List.getElem?_set_self hlt.2]at hy
   cases hy
   obtain rfl:r=p:=by have:C.β k=some p:=hk;rw[hβ]at this;exact Option.some.inj this
   refine⟨q,cap,.inr rfl,fun x hx hxr=>?_,hv,ho.imp id fun h=>h.tok,hr⟩
   rcases hx with hx|rfl
   ·have:=hT x hx hxr
    exact⟨by omega,fun h=>by omega⟩
   ·exact⟨Nat.le_refl _,fun _=>rfl⟩
  ·rw[List.getElem?_set_ne (Ne.symm hkb)]at hy
   have hpr:p≠r:=fun h=>hkb (m.inj k b p hk (h▸hβ))
   refine(m.box k y p hy hk).mono Ctx.tok_le (fun j z u h=>h.tok) (fun x hx hxp=>?_)
   rcases hx with hx|rfl
   ·exact hx
   ·exact absurd hxp.symm hpr
 ·intro x hx
  rcases hx with hx|rfl
  ·exact m.tlt x hx
  ·exact hlt.1
theorem MInv.toDead (m:MInv P C ω w0 C0 hp w){b r}(hβ:C.β b=some r)(hr:∃cs t,w.heap[r]?=some (.cells cs t (0,0))):MInv P C ω w0 C0 (hp.set b .dead) w:=
 m.updBox (ω':=ω) (w':=w) (r:=r) (b:=b) ⟨rfl,fun _ _=>rfl,fun c t fr h=>by obtain⟨cs,t',h'⟩:=hr;rw[h']at h;cases h;rfl,rfl,rfl⟩ hβ .dead (fun _ _ _ _ _ h=>h) hr
theorem MInv.ownUpd (m:MInv P C ω w0 C0 hp w){b q n cap cs}(hd:hp[b]?=some .dead)(ho:qdo C ω w w0.heap.size b q n cap)(hu:RowUpd w w' q cs):MInv P C ω w0 C0 hp w':=by
 obtain⟨h1,h2,h3,_,_,⟨cells,elem,h5,_⟩,h7⟩:=ho
 simp only at h1 h2 h3 h5 h7
 have hK:∀o,C.K q o=none:=fun o=>h7 o (by simp)
 refine { base:=m.base,know:=?_,kone:=m.kone,apart:=m.apart,inj:=m.inj,lt:=?_,size:=?_,frame:=?_,dfr:=?_,os:=hu.os.trans m.os,output:=hu.output.trans m.output,fresh:=m.fresh,grown:=m.grown,old:=m.old,box:=?_,tlt:=fun x hx=>by rw[hu.size];exact m.tlt x hx }
 ·intro k p v hk
  have hne:k≠q:=fun h=>by rw[h,hK p]at hk;cases hk
  have hc:=m.know _ _ _ hk
  simp only[World.cell?]at hc ⊢
  rw[hu.other k hne];exact hc
 ·intro k p hk;rw[hu.size];exact m.lt k p hk
 ·rw[hu.size];exact m.size
 ·intro k hk hn hw
  have hne:k≠q:=fun h=>by
   subst h
   rcases h2 with h|h
   ·omega
   ·rw[m.grown.w]at h;exact hw h
  rw[hu.other k hne];exact m.frame k hk hn hw
 ·intro k hk
  have hne:k≠q:=fun h=>by
   subst h
   have:=m.dfr k hk
   rw[h5]at this;cases this
  rw[hu.other k hne];exact m.dfr k hk
 ·intro k x p hx hk
  have hne:p≠q:=fun h=>h3 k (h▸hk)
  by_cases hkb:k=b
  ·subst hkb
   rw[hd]at hx
   cases hx
   obtain⟨cs',t',hg⟩:=m.box k .dead p hd hk
   exact⟨cs',t',by rw[hu.other p hne];exact hg⟩
  ·exact(m.box k x p hx hk).upd hu hne (fun j=>by rw[h1];intro h;injection h with h;injection h with h _;exact hkb h.symm)
theorem qhp {sz}:∀ {xs:List AVal} (n:Nat),(∀x∈xs,x.flat.length=sz)→(xs.take n).flatMap AVal.flat=(xs.flatMap AVal.flat).take (n*sz)
 | [],n,_=>by simp
 |x::xs,0,_=>by simp
 |x::xs,n+1,h=>by
  have hx:=h x (List.mem_cons_self ..)
  have h1:x.flat.take ((n+1)*sz)=x.flat:=List.take_of_length_le (by rw[hx,Nat.succ_mul];omega)
  have h2:(n+1)*sz-sz=n*sz:=by rw[Nat.succ_mul];omega
  rw[List.take_succ_cons,List.flatMap_cons,List.flatMap_cons,qhp n (fun y hy=>h y (List.mem_cons_of_mem _ hy)),List.take_append,hx,h1,h2]
theorem VecIs.grown {K q q' sz len cap cap' xs ys news olds cells'}{t':TypeId}(h:VecIs K w q sz xs cap)(hl:len≤xs.length)(hnews:RepL (.iso K) (ys.flatMap AVal.flat) news)(hysz:∀y∈ys,y.flat.length=sz)(hone:∀v∈news,v.oneCell'=true)
  (hold:∀vs:List Value,RepL (.iso K) (xs.flatMap AVal.flat) vs→(∀(j:Nat) v,vs[j]?=some v→w.cell? ⟨q,j,none⟩=some v)→olds=vs.take (len*sz)) (hcap:len+ys.length≤cap') (hfit:cap'*sz≤cells'.size)
  (hg:w'.heap[q']?=some (.cells cells' t' (0,0))) (hc:∀(j:Nat) v,(olds++news)[j]?=some v→cells'[j]?=some v):VecIs K w' q' sz (xs.take len++ys) cap':=by
 obtain⟨cells,t,vs,g1,g2,g3,g4,g5,g6,g7⟩:=h
 have ho:olds=vs.take (len*sz):=hold vs g5 (fun j v hj=>by
  unfold World.cell?
  rw[g1]
  simp only[Option.isSome_none,Bool.false_eq_true,if_false]
  exact g6 j v hj)
 refine⟨cells',t',olds++news,hg,by rw[List.length_append,List.length_take];omega,hfit,?_,?_,hc,?_⟩
 ·intro x hx
  rcases List.mem_append.1 hx with hx|hx
  ·exact g4 x (List.mem_of_mem_take hx)
  ·exact hysz x hx
 ·rw[List.flatMap_append,qhp len g4,ho]
  exact(g5.take _).append hnews
 ·intro v hv
  rcases List.mem_append.1 hv with hv|hv
  ·rw[ho]at hv;exact g7 v (List.mem_of_mem_take hv)
  ·exact hone v hv
theorem RepL.pure {xs vs}(h:RepL C xs vs)(hb:qo 0 xs=true):RepL (.iso C.K) xs vs:=
 RepI.shift (C:=C) (C':=.iso C.K) 0 (fun _ _ _ h=>h) (fun b r hlt=>by omega) h hb
theorem qfm {n}:∀ {xs:List AVal},qo n xs=true→qo n (xs.flatMap AVal.flat)=true
 | [],_=>rfl
 |x::xs,h=>by
  simp only[qo,Bool.and_eq_true]at h
  have key:∀(ys zs:List AVal),qo n ys=true→qo n zs=true→qo n (ys++zs)=true:=by
   intro ys zs
   induction ys with
   |nil=>intro _ h;exact h
   |cons y ys ih=>intro h1 h2;simp only[qo,Bool.and_eq_true,List.cons_append]at h1 ⊢;exact⟨h1.1,ih h1.2 h2⟩
  rw[List.flatMap_cons]
  exact key _ _ (by rw[qef];exact h.1) (qfm h.2)
theorem RepL.fun {xs}:∀ {vs ws:List Value},RepL C xs vs→RepL C xs ws→vs.length=ws.length:=fun h k=>by rw[h.length,k.length]
theorem qwr (m:MInv P C ω w0 C0 hp w)(e:EnvRel C ω w w0.heap.size env a.tmps){c}{t u el:TypeId}{ut:TypeDesc}{x y x' y' sz b bx ver len xs ys vy h'}
  (ho:o.op=.call c) (hcb:c.callee=.builtin .append) (hca:c.args.toList=[x,y]) (hct:c.argTypes.toList=[t,u]) (ht:P.underlying t=some (.slice el)) (hu:P.underlying u=some ut) (hut:qau ut=true)
  (hn:qy P el=some sz) (hb:kz P el=some b) (h1:ql x=some x') (h2:ql y=some y') (e1:qe env x'=some (.vref bx ver len)) (e2:qe env y'=some vy) (hsrc:jx sz vy=some ys)
  (hbx:hp[bx]?=some (.vec sz ver xs)) (hle:len≤xs.length) (hlen:len+ys.length≤1073741824) (hbl:b≤4096) (hpy:qo 0 ys=true) (hzero:∃z,zd P el=some z∧z.length=sz)
  (hset:jb hp bx (.vec sz (ver+1) (xs.take len++ys))=some h'):
  ∃v w',(execOp a.eval o).run P w=.ok (.value v) w'∧jk P C0 w0 C a.tmps d env ⟨.vref bx (ver+1) (len+ys.length),false,none,h'⟩ v w':=by
 have hset':h'=hp.set bx (.vec sz (ver+1) (xs.take len++ys)):=by
  unfold jb at hset
  cases hblt:Nat.blt bx hp.length with
  |false=>simp[hblt]at hset
  |true=>simpa[hblt]using hset.symm
 subst hset'
 have ha:c.args=#[x,y]:=by apply Array.ext';simpa using hca
 have hty:c.argTypes=#[t,u]:=by apply Array.ext';simpa using hct
 obtain⟨i,hi,hib⟩:∃i,P.info? el=some i∧i.bytes=b:=by
  unfold kz at hb
  cases hi:P.info? el with
  |none=>simp[hi]at hb
  |some i=>exact⟨i,rfl,by simpa[hi]using hb⟩
 have hsi:i.size=sz:=by
  unfold qy at hn;rw[hi]at hn;simpa using hn
 obtain⟨z,hz,hzl0⟩:=hzero
 obtain⟨zv,hzv⟩:∃zv,i.zero=some zv:=by
  unfold zd at hz;rw[hi]at hz
  cases hq:i.zero with
  |none=>simp[hq]at hz
  |some v=>exact⟨v,rfl⟩
 have ry:=qn e.rep h2 e2
 obtain⟨news,hs,hnews,hysz,hone⟩:=qkt m hu hut hsrc ry
 have hnewsP:RepL (.iso C.K) (ys.flatMap AVal.flat) news:=hnews.pure (qfm hpy)
 have hrunE:∀ {z:Value} {w':World},(Builtin.append_ #[t,u] o.type #[a.eval x,a.eval y]).run P w=.ok z w'→(execOp a.eval o).run P w=.ok (.value z) w':=by
  intro z w' h
  simp[execOp,ho,resolve,hcb,ha,hty,invoke,builtin,h]
 have hnl:news.length=ys.length*sz:=by rw[hnews.length,z6 ys hysz]
 obtain⟨r0,q,cap,hβ,hT,hlc,hx⟩:=qgr (qn e.rep h1 e1)
 obtain⟨q',cap',k1,k2,k3,k4,k5⟩:=m.box bx _ r0 hbx hβ
 have heq:=(k2 _ hT rfl).2 rfl
 simp only[Prod.mk.injEq]at heq
 obtain⟨rfl,rfl⟩:=heq
 have hfresh:∀x,C.T x→x.1=r0→x.2.1<ver+1:=fun x hx hr=>by have:=(k2 x hx hr).1;omega
 have hblt:=(m.lt bx r0 hβ).2
 -- the old cells
 obtain⟨cells,te,vs,g1,g2,g3,g4,g5,g6,g7⟩:=id k3
 have hvl:vs.length=xs.length*sz:=by rw[g5.length,z6 xs g4]
 have hvle:xs.length*sz≤cap*sz:=Nat.mul_le_mul_right _ g2
 have hlle:len*sz≤xs.length*sz:=Nat.mul_le_mul_right _ hle
 have hold:∀vs':List Value,RepL (.iso C.K) (xs.flatMap AVal.flat) vs'→(∀(j:Nat) v,vs'[j]?=some v→w.cell? ⟨q,j,none⟩=some v)→vs.take (len*sz)=vs'.take (len*sz):=by
  intro vs' h3 h4
  have hl':vs'.length=vs.length:=by rw[h3.length,g5.length]
  have:vs'=vs:=by
   apply List.ext_getElem?
   intro j
   by_cases hj:j<vs.length
   ·have h5:=h4 j _ (List.getElem?_eq_getElem (by omega))
    have h6:=g6 j _ (List.getElem?_eq_getElem hj)
    unfold World.cell? at h5
    rw[g1]at h5
    simp only[Option.isSome_none,Bool.false_eq_true,if_false]at h5
    rw[List.getElem?_eq_getElem hj,List.getElem?_eq_getElem (by omega),←h5,h6]
   ·rw[List.getElem?_eq_none (by omega),List.getElem?_eq_none (by omega)]
  rw[this]
 by_cases hroom:len+ys.length≤cap
 ·-- there is room
  have hcapsz:(len+ys.length)*sz≤cap*sz:=Nat.mul_le_mul_right _ hroom
  rw[Nat.add_mul]at hcapsz
  have hrun:=qa9 (P:=P) (w:=w) (ty:=o.type) ht hi q 0 len cap (a.eval y) ys.length news (hsi▸hs) hroom g1 (by rw[hsi,hnl];omega)
  rw[←hx,hsi]at hrun
  have hu':=qa5 g1 (cells.toList.take (0+len*sz)++news++cells.toList.drop (0+len*sz+news.length)).toArray
  have hgat:=setRow_heap w q cells (cells.toList.take (0+len*sz)++news++cells.toList.drop (0+len*sz+news.length)).toArray te (0,0) g1
  generalize hw':w.setRow q (cells.toList.take (0+len*sz)++news++cells.toList.drop (0+len*sz+news.length)).toArray=w' at hrun hu' hgat
  have hvis:VecIs C.K w' q sz (xs.take len++ys) cap:=by
   refine VecIs.grown (olds:=vs.take (len*sz)) k3 hle hnewsP hysz hone hold hroom (by simp;omega) hgat ?_
   intro j v hj
   rw[List.getElem?_toArray]
   have hct:(cells.toList.take (0+len*sz)).length=len*sz:=by simp;omega
   have hvt:(vs.take (len*sz)).length=len*sz:=by simp;omega
   by_cases hjl:j<len*sz
   ·rw[List.append_assoc,List.getElem?_append_left (by rw[hct];exact hjl)]
    rw[List.getElem?_append_left (by rw[hvt];exact hjl),List.getElem?_take_of_lt hjl]at hj
    rw[List.getElem?_take_of_lt (by omega),Array.getElem?_toList]
    exact g6 j v hj
   ·rw[List.getElem?_append_right (by rw[hvt];omega),hvt]at hj
    have hjn:j-len*sz<news.length:=(List.getElem?_eq_some_iff.1 hj).1
    rw[List.append_assoc,List.getElem?_append_right (by rw[hct];omega),hct,List.getElem?_append_left hjn]
    exact hj
  have fin:∀(m1:MInv P C ω w0 C0 (hp.set bx .dead) w') (e1:EnvRel C ω w' w0.heap.size env a.tmps) (ho1:q=r0∨qdo C ω w' w0.heap.size bx q (xs.take len++ys).length cap) (hr1:∃cs t,w'.heap[r0]?=some (.cells cs t (0,0))),
    jk P C0 w0 C a.tmps d env ⟨.vref bx (ver+1) (len+ys.length),false,none,hp.set bx (.vec sz (ver+1) (xs.take len++ys))⟩ (.slice (some ⟨q,0,none⟩) (len+ys.length) cap) w':=by
   intro m1 e1 ho1 hr1
   have m2:=m1.toVec (b:=bx) (sz:=sz) (ver:=ver+1) (q:=q) (cap:=cap) (xs:=xs.take len++ys) hβ hfresh hvis ho1 hr1
   rw[List.set_set]at m2
   exact⟨_,ω,Ctx.tok_le,m2,e1.tok,.vref _ _ _ r0 q cap hβ (.inr rfl) hroom,by simp⟩
  refine⟨_,_,hrunE hrun,?_⟩
  rcases k4 with rfl|k4
  ·refine fin ?_ (e.updβ hu'.upd hβ) (.inl rfl) ⟨_,_,hgat⟩
   exact m.updBox hu'.upd hβ .dead (fun _ _ _ _ _ h=>h) ⟨_,_,hgat⟩
  ·have hqr:q≠r0:=fun h=>k4.2.2.1 bx (by rw[hβ];exact congrArg some h.symm)
   have md:=m.toDead hβ k5
   have m1:=md.ownUpd (by rw[List.getElem?_set_self hblt]) k4 hu'
   obtain⟨cs5,t5,k5⟩:=k5
   refine fin m1 ?_ (.inr ?_) ⟨cs5,t5,by rw[hu'.other _ (Ne.symm hqr)];exact k5⟩
   ·exact fun s y hy=>let ⟨v,j1,j2,j3⟩:=e s y hy; ⟨v,j1,j2,fun h=>(j3 h).upd hu' (by rw[k4.1];simp)⟩
   ·obtain⟨j1,j2,j3,j4,j5,_,j7⟩:=k4
    exact⟨j1,j2,j3,j4,j5,⟨_,te,hgat,by simp,fun _ _ _ h=>by simp at h⟩,fun o ho=>j7 o (by simp)⟩
 ·-- there is none
  have hfit:Builtin.nextslicecap (len+ys.length) cap*i.bytes≤281474976710656:=growslice_fits (by omega) (by
   rw[hib]
   exact Nat.le_trans (Nat.mul_le_mul hlen hbl) (by decide))
  have holdl:(vs.take (len*sz)).length=len*i.size:=by rw[hsi];simp;omega
  have hrun:=run_append_grow_src w t u o.type el i zv ht hi hzv (some ⟨q,0,none⟩) len cap (vs.take (len*sz)) (run_firstCells_some _ _ _ _ _ _ _ holdl (fun j v hj=>by
   rw[List.getElem?_take]at hj
   split at hj
   ·have h3:=g6 j v hj
    have h4:w.cell? ⟨q,j,none⟩=some v:=by
     unfold World.cell?
     rw[g1]
     simp only[Option.isSome_none,Bool.false_eq_true,if_false]
     exact h3
    rw[add_lit,Nat.zero_add]
    exact h4
   ·cases hj)) (a.eval y) ys.length news (hsi▸hs) (by omega) (by omega) hfit
  rw[←hx]at hrun
  have hge:=grownCap_ge w (len+ys.length) cap el
  have hzl:zv.cells.size=sz:=by
   obtain⟨_,zv',hz1,hz2,_⟩:=yh (C:=C) hz
   have:=hz1 w
   simp[zeroValue,typeInfo,hi,hzv]at this
   subst this
   have:=hz2.length
   simp at this
   omega
  generalize hcells':((vs.take (len*sz)++news).toArray++Builtin.zeroCells zv.cells (grownCap w (len+ys.length) cap el-(len+ys.length)))=cells' at hrun
  generalize hgc:grownCap w (len+ys.length) cap el=gc at hrun hge hcells'
  have hx2:Ext w w.drew:=Ext.drew w
  have hxa:Ext w.drew (w.drew.alloc (.cells cells' el)):=Ext.alloc _ _ (fun c t fr h=>by cases h;rfl)
  have hga:(w.drew.alloc (.cells cells' el)).heap[w.drew.heap.size]?=some (.cells cells' el (0,0)):=by rw[qat,if_pos rfl]
  have hvis:VecIs C.K (w.drew.alloc (.cells cells' el)) w.drew.heap.size sz (xs.take len++ys) gc:=by
   refine VecIs.grown (olds:=vs.take (len*sz)) k3 hle hnewsP hysz hone hold hge ?_ hga ?_
   ·rw[←hcells']
    have hvt:(vs.take (len*sz)).length=len*sz:=by simp;omega
    simp only[Array.size_append,List.size_toArray,List.length_append,hvt,hnl]
    have:(Builtin.zeroCells zv.cells (gc-(len+ys.length))).size=(gc-(len+ys.length))*sz:=by simp[Builtin.zeroCells,hzl]
    rw[this,←Nat.add_mul,←Nat.add_mul]
    exact Nat.mul_le_mul_right _ (by omega)
   ·intro j v hj
    rw[←hcells',Array.getElem?_append_left (by simpa using(List.getElem?_eq_some_iff.1 hj).1)]
    simpa using hj
  have md:=((m.toDead hβ k5).ext hx2).fresh1 w.drew.heap.size (.cell bx 0) (Nat.le_refl _)
  have m1:=md.ext hxa
  obtain⟨cs5,t5,k5⟩:=k5
  have m2:=m1.toVec (b:=bx) (sz:=sz) (ver:=ver+1) (q:=w.drew.heap.size) (cap:=gc) (xs:=xs.take len++ys) hβ hfresh hvis (.inr ⟨by simp[own1],.inl (Nat.le_trans m.size hx2.size),fun k hk=>by have:=(m.lt k _ hk).1;simp at this,rfl,rfl,⟨cells',el,hga,by simp,fun _ _ _ h=>by simp at h⟩,fun o _=>m.K_new _ hx2.size o⟩) ⟨cs5,t5,(hx2.trans hxa).get k5⟩
  rw[List.set_set]at m2
  refine⟨_,_,hrunE hrun,_,_,Ctx.tok_le,m2,(((e.ext hx2).fresh (Nat.le_refl _)).ext hxa).tok,.vref _ _ _ r0 _ gc hβ (.inr rfl) (by omega),by simp⟩
theorem qtu (m:MInv P C ω w0 C0 hp w)(e:EnvRel C ω w w0.heap.size env tmps){bx sz cap xs cells}{te:TypeId}{vs}(hh:hp[bx]?=some .hole)(hvs:RepL C (xs.flatMap AVal.flat) vs)(hpx:qo 0 xs=true)(hsz:∀x∈xs,x.flat.length=sz)
  (hone:∀v∈vs,v.oneCell'=true) (hc:∀(j:Nat) v,vs[j]?=some v→cells[j]?=some v) (hcap:xs.length≤cap) (hfit:cap*sz≤cells.size):
  jk P C0 w0 C tmps d env ⟨.vref bx 0 xs.length,false,none,hp.set bx (.vec sz 0 xs)⟩ (.slice (some ⟨w.heap.size,0,none⟩) xs.length cap) (w.alloc (.cells cells te)):=by
 obtain⟨m1,e1,hle1⟩:=m.newBox e hh (.cells cells te) (fun c t fr h=>by cases h;rfl) .dead (fun C' ω' w' _ hg=>⟨cells,te,hg⟩)
 have hga:(w.alloc (.cells cells te)).heap[w.heap.size]?=some (.cells cells te (0,0)):=by rw[qat,if_pos rfl]
 have hβ:(C.box bx w.heap.size).β bx=some w.heap.size:=by simp[Ctx.box]
 have m2:=m1.toVec (b:=bx) (r:=w.heap.size) (sz:=sz) (ver:=0) (q:=w.heap.size) (cap:=cap) (xs:=xs) hβ (fun x hx hr=>by have:=m.tlt x hx;omega) ⟨cells,te,vs,hga,hcap,hfit,hsz,hvs.pure (qfm hpx),hc,hone⟩ (.inl rfl) ⟨cells,te,hga⟩
 rw[List.set_set]at m2
 exact⟨_,ω,Ctx.le_trans hle1 Ctx.tok_le,m2,e1.tok,.vref _ _ _ w.heap.size w.heap.size cap hβ (.inr rfl) hcap,by simp⟩
theorem qu8 (m:MInv P C ω w0 C0 hp w)(e:EnvRel C ω w w0.heap.size env a.tmps){c}{t u el:TypeId}{ut:TypeDesc}{x y x' y' sz sz0 b h0 rk ys vy h'}
  (ho:o.op=.call c) (hcb:c.callee=.builtin .append) (hca:c.args.toList=[x,y]) (hct:c.argTypes.toList=[t,u]) (ht:P.underlying t=some (.slice el)) (hu:P.underlying u=some ut) (hut:qau ut=true)
  (hn:qy P el=some sz) (hb:kz P el=some b) (h1:ql x=some x') (h2:ql y=some y') (e1:qe env x'=some (.list true sz0 [])) (e2:qe env y'=some vy) (hsrc:jx sz vy=some ys)
  (hlen:ys.length≤1073741824) (hne:ys≠[]) (hbl:b≤4096) (hpy:qo 0 ys=true) (hzero:∃z,zd P el=some z∧z.length=sz) (hnew:newBox h0 hp rk (.vec sz 0 ys)=some h'):
  ∃v w',(execOp a.eval o).run P w=.ok (.value v) w'∧jk P C0 w0 C a.tmps d env ⟨.vref (h0+rk) 0 ys.length,false,none,h'⟩ v w':=by
 obtain⟨hh,rfl⟩:=zj hnew
 have ha:c.args=#[x,y]:=by apply Array.ext';simpa using hca
 have hty:c.argTypes=#[t,u]:=by apply Array.ext';simpa using hct
 obtain⟨i,hi,hib⟩:∃i,P.info? el=some i∧i.bytes=b:=by
  unfold kz at hb
  cases hi:P.info? el with
  |none=>simp[hi]at hb
  |some i=>exact⟨i,rfl,by simpa[hi]using hb⟩
 have hsi:i.size=sz:=by
  unfold qy at hn;rw[hi]at hn;simpa using hn
 obtain⟨z,hz,hzl0⟩:=hzero
 obtain⟨zv,hzv⟩:∃zv,i.zero=some zv:=by
  unfold zd at hz;rw[hi]at hz
  cases hq:i.zero with
  |none=>simp[hq]at hz
  |some v=>exact⟨v,rfl⟩
 have ry:=qn e.rep h2 e2
 obtain⟨news,hs,hnews,hysz,hone⟩:=qkt m hu hut hsrc ry
 have hrunE:∀ {z:Value} {w':World},(Builtin.append_ #[t,u] o.type #[a.eval x,a.eval y]).run P w=.ok z w'→(execOp a.eval o).run P w=.ok (.value z) w':=by
  intro z w' h
  simp[execOp,ho,resolve,hcb,ha,hty,invoke,builtin,h]
 have hnl:news.length=ys.length*sz:=by rw[hnews.length,z6 ys hysz]
 have hx:a.eval x=.slice none 0 0:=by
  rcases(qn e.rep h1 e1).list_inv with⟨_,_,hx⟩|⟨hf,_⟩|⟨hf,_⟩
  ·exact hx
  ·cases hf
  ·cases hf
 have hpos:0<ys.length:=List.length_pos_iff.2 hne
 have hfit:Builtin.nextslicecap (0+ys.length) 0*i.bytes≤281474976710656:=growslice_fits (by omega) (by
  rw[hib]
  exact Nat.le_trans (Nat.mul_le_mul (by omega) hbl) (by decide:2^30*4096≤_))
 have hrun:=run_append_grow_src w t u o.type el i zv ht hi hzv none 0 0 [] (run_firstCells_none _ _ _ _ _) (a.eval y) ys.length news (hsi▸hs) (by omega) (by omega) hfit
 rw[←hx]at hrun
 have hge:=grownCap_ge w (0+ys.length) 0 el
 have hzl:zv.cells.size=sz:=by
  obtain⟨_,zv',hz1,hz2,_⟩:=yh (C:=C) hz
  have:=hz1 w
  simp[zeroValue,typeInfo,hi,hzv]at this
  subst this
  have:=hz2.length
  simp at this
  omega
 generalize hcells':(([]++news).toArray++Builtin.zeroCells zv.cells (grownCap w (0+ys.length) 0 el-(0+ys.length)))=cells' at hrun
 generalize hgc:grownCap w (0+ys.length) 0 el=gc at hrun hge hcells'
 have hx2:Ext w w.drew:=Ext.drew w
 have:=qtu (d:=d) (tmps:=a.tmps) (m.ext hx2) (e.ext hx2) (te:=el) (cap:=gc) (sz:=sz) (cells:=cells') hh hnews hpy hysz hone (fun j v hj=>by
  rw[←hcells',List.nil_append,Array.getElem?_append_left (by simpa using(List.getElem?_eq_some_iff.1 hj).1)]
  simpa using hj) (by omega) (by
   rw[←hcells']
   have h5:(Builtin.zeroCells zv.cells (gc-(0+ys.length))).size=(gc-(0+ys.length))*sz:=by simp[Builtin.zeroCells,hzl]
   simp only[Array.size_append,List.size_toArray,List.nil_append,hnl,h5]
   rw[←Nat.add_mul]
   exact Nat.mul_le_mul_right _ (by omega))
 rw[Nat.zero_add]at hrun
 exact⟨_,_,hrunE hrun,this⟩
theorem qv8 (m:MInv P C ω w0 C0 hp w)(e:EnvRel C ω w w0.heap.size env a.tmps){t el:TypeId}{ps len sz h0 rk z ps' qs xs h'}
  (ho:o.op=.buildSlice t len ps) (ht:P.underlying t=some (.slice el)) (hn:qy P el=some sz) (hz:zd P el=some z) (hlen:sz*len≤65536) (h00:0<sz) (hzl:z.length=sz)
  (hps:qdm ps.toList=some ps') (hq:jy env sz ps'=some qs) (hx:qaa (List.replicate len (qaf sz z)) qs=some xs) (hpx:qo 0 xs=true) (hnew:newBox h0 hp rk (.vec sz 0 xs)=some h'):
  ∃v w',(execOp a.eval o).run P w=.ok (.value v) w'∧jk P C0 w0 C a.tmps d env ⟨.vref (h0+rk) 0 xs.length,false,none,h'⟩ v w':=by
 obtain⟨hh,rfl⟩:=zj hnew
 obtain⟨ds,hrun,hdr,h1,hxs,hxlen,hfit⟩:=qf8 (C:=C) (ω:=ω) (w:=w) (w0:=w0) e ho ht hn hz hlen h00 hzl hps hq hx
 refine⟨_,_,hrun,?_⟩
 have hcore:=qtu (d:=d) (tmps:=a.tmps) m e (te:=el) (cap:=len) (sz:=sz) (cells:=ds) hh hdr hpx hxs h1 (by intro j v h;simpa using h) (by omega) hfit
 rw[hxlen]at hcore ⊢
 exact hcore
theorem qsd (m:MInv P C ω w0 C0 hp w)(e:EnvRel C ω w w0.heap.size env a.tmps){t:TypeId}{z}(ho:o.op=.alloc t)(hz:zd P t=some z):
  ∃v w',(execOp a.eval o).run P w=.ok (.value v) w'∧jk P C0 w0 C a.tmps d env ⟨.pend z.length,true,none,hp⟩ v w':=by
 obtain⟨_,zv,hzr,hzrep,hz1⟩:=yh (C:=C) hz
 have hx:Ext w (w.alloc (.cells zv.cells t)):=Ext.alloc w _ (fun c t fr h=>by cases h;rfl)
 have hzl:zv.cells.size=z.length:=by have:=hzrep.length;simpa using this
 refine⟨.pointer (some ⟨w.heap.size,0,none⟩),_,by simp[execOp,ho,Instr.alloc,hzr,newVar,newRow],C,Abs.own1 ω w.heap.size d,Ctx.le_refl C,(m.fresh1 _ d (Nat.le_refl _)).ext hx,(e.fresh (Nat.le_refl _)).ext hx,.pend _ _,fun _=>?_⟩
 refine⟨by simp[Abs.own1],.inl m.size,fun b hb=>by have:=(m.lt b _ hb).1;simp at this,rfl,rfl,⟨zv.cells,t,by rw[qat,if_pos rfl],by simp;omega,fun _ _ _ h=>by simp at h⟩,fun o _=>m.K_new _ (Nat.le_refl _) o⟩
theorem qrp (m:MInv P C ω w0 C0 hp w)(e:EnvRel C ω w w0.heap.size env a.tmps){t:TypeId}{x y y' n s v}(ho:o.op=.store t x y)(hn:qy P t=some n)
  (h1:ql x=some (.tmp s)) (h2:ql y=some y') (hl:qv s env=some (.pend n,true)) (e2:qe env y'=some v) (hvl:v.flat.length=n) (hs:v.flat.all qf=true):
  ∃w' C' ω',(execOp a.eval o).run P w=.ok .skip w'∧C.le C'∧MInv P C' ω' w0 C0 hp w'∧EnvRel C' ω' w' w0.heap.size ((s,.vptr v,false)::env) a.tmps:=by
 obtain⟨cv,c1,c2,c3⟩:=e s _ hl
 have hev:a.eval x=cv:=by
  cases x with
  |tmp t'=>
   simp only[ql]at h1
   cases h1
   simp[Act.eval,Array.getD_eq_getD_getElem?,c1]
  |const u=>simp only[ql]at h1;split at h1<;>cases h1
  |func f=>simp[ql]at h1
  |global g=>simp[ql]at h1
 cases c2 with
 |pend _ ad=>
  obtain⟨hω,hB,hβ,hsp,hoff,⟨cells,te,hg,hfit,_⟩,hK⟩:=c3 rfl
  obtain⟨r,q,sp⟩:=ad
  simp only at hω hB hβ hsp hoff hg hfit hK
  subst hsp
  subst hoff
  have ry:=qn e.rep h2 e2
  have hc:=qay ry hs
  have hone:=ko hc (fun y hy=>List.all_eq_true.1 hs y hy)
  have hcl:(a.eval y).cells.toList.length=n:=by rw[hc.length,hvl]
  have hrun:=qet (P:=P) (t:=t) (off:=0) hn hcl hg (by omega) hone
  obtain⟨m',e',hle⟩:=qkw (d:=.slot s) m e (r:=r) (q:=0) (news:=(a.eval y).cells.toList) hω hB hβ hg (by omega) (fun o _=>hK o (by simp)) hone
  refine⟨_,_,_,?_,hle,m',?_⟩
  ·simp only[execOp,ho,Instr.storeAt,Sem.run_bind,hev,Instr.sureAddr,Sem.run_pure,Result.andThen_ok,hrun]
  ·intro t' z hz
   by_cases hts:t'=s
   ·subst hts
    simp only[qv,Nat.beq_refl,cond_true,Option.some.injEq]at hz
    subst hz
    exact⟨_,c1,.vptr _ _ _ (Ctx.put_cells (fun o _=>hK o (by simp)) hc),by simp⟩
   ·have hb:Nat.beq s t'=false:=by
     cases hb:Nat.beq s t' with
     |false=>rfl
     |true=>exact absurd (Nat.eq_of_beq_eq_true hb).symm hts
    simp only[qv,hb,cond_false]at hz
    refine e' t' z ?_
    simp only[jt,hl,qv,hb,cond_false]
    exact hz
end
section
variable {P:Program}{C C0:Ctx}{ω:Nat→Option Loc}{w w' w0:World}{hp:qi}{env:Env}{a:Act}{o:Oper}{tmps:Array Value}{d:Loc}
def zm (w:World)(r:Nat)(x:Obj):World:={ w with heap:=w.heap.setIfInBounds r x }
theorem qbj {r x}(h:r<w.heap.size):(zm w r x).heap[r]?=some x:=by
 show(w.heap.setIfInBounds r x)[r]?=_
 rw[Array.getElem?_setIfInBounds_self_of_lt h]
theorem qcb {r x}(h:r<w.heap.size)(hx:∀c t fr,x=.cells c t fr→fr=(0,0)):Upd w (zm w r x) r where
 size:=by simp[zm]
 other k hk:=by
  show(w.heap.setIfInBounds r x)[k]?=_
  rw[Array.getElem?_setIfInBounds_ne (Ne.symm hk)]
 fz c t fr hc:=by
  rw[qbj h]at hc
  exact hx c t fr (Option.some.inj hc)
 os:=rfl
 output:=rfl
theorem kw {r x y}(h:w.heap[r]?=some y)(hy:∀c t f,y≠.cells c t f):(setObj r x).run P w=.ok () (zm w r x):=by
 cases y with
 |cells c t f=>exact absurd rfl (hy c t f)
 |_=>simp[setObj,Sem.run,zm,h]
theorem yj {r y}(h:w.heap[r]?=some y)(hy:∀c t f,y≠.cells c t f):(getObj r).run P w=.ok y w:=by
 cases y with
 |cells c t f=>exact absurd rfl (hy c t f)
 |_=>simp[getObj,Sem.run,h]
theorem quq (m:MInv P C ω w0 C0 hp w)(e:EnvRel C ω w w0.heap.size env a.tmps){x x' b pos s}(ho:o.op=.next x true)(h1:ql x=some x')(e1:qe env x'=some (.ptr b 0))(hbx:hp[b]?=some (.iter s pos)):
  (pos<s.length→∀h',jb hp b (.iter s (pos+(qam s pos).2))=some h'→∃v w',(execOp a.eval o).run P w=.ok (.value v) w'∧jk P C0 w0 C a.tmps d env ⟨.tup [.bool true,.int .i64 pos,.int .i32 (qam s pos).1],false,none,h'⟩ v w') ∧
  (¬pos<s.length→∃v w',(execOp a.eval o).run P w=.ok (.value v) w'∧jk P C0 w0 C a.tmps d env ⟨.tup [.bool false],false,none,hp⟩ v w'):=by
 obtain⟨r,hr,hq⟩:=(qn e.rep h1 e1).ptr_inv
 have hbox:w.heap[r]?=some (.stringIter ⟨⟨s⟩⟩ pos):=m.box b _ r hbx hr
 have hlt:=(m.lt b r hr).1
 have hsz:(⟨⟨s⟩⟩:ByteArray).size=s.length:=rfl
 constructor
 ·intro hpos h' hset
  obtain rfl:=qa2 hset
  have hu:=qcb (w:=w) (r:=r) (x:=.stringIter ⟨⟨s⟩⟩ (pos+(qam s pos).2)) hlt (by simp)
  refine⟨.tuple #[.bool true,goInt pos,.int .i32 (qam s pos).1],zm w r (.stringIter ⟨⟨s⟩⟩ (pos+(qam s pos).2)),?_,C,ω,Ctx.le_refl C,m.updBox hu hr _ (fun _ _ _ _ _ h=>h) (qbj hlt),e.updβ hu hr,?_,by simp⟩
  ·have hp':pos<(⟨⟨s⟩⟩:ByteArray).size:=hpos
   have hset:=kw (P:=P) (x:=.stringIter ⟨⟨s⟩⟩ (pos+(qam s pos).2)) hbox (by simp)
   simp only[execOp,ho,hq,Instr.next,Sem.run_bind,yj hbox (by simp),Result.andThen_ok,hp',if_true]
   unfold qam at hset ⊢
   simp only[Sem.run_bind,hset,Result.andThen_ok,Sem.run_pure]
  ·refine .tup _ _ (.cons _ _ _ _ (.bool _) (.cons _ _ _ _ ?_ (.cons _ _ _ _ (.int _ _) .nil)))
   exact .int _ _
 ·intro hpos
  have hp':¬pos<(⟨⟨s⟩⟩:ByteArray).size:=hpos
  refine⟨.tuple #[.bool false],w,?_,qo3 m e (.tup _ _ (.cons _ _ _ _ (.bool _) .nil))⟩
  simp only[execOp,ho,hq,Instr.next,Sem.run_bind,yj hbox (by simp),Result.andThen_ok,hp',if_false,Sem.run_pure]
theorem qhn {t:TypeId}{kd}(h:kdT P t=some kd):(kd=.int∧∃k,P.underlying t=some (.int k))∨(kd=.str∧P.underlying t=some .string)∨(kd=.bool∧P.underlying t=some .bool):=by
 unfold kdT at h
 split at h<;>first|cases h|skip
 ·exact .inl ⟨rfl,_,‹_›⟩
 ·exact .inr (.inl ⟨rfl,‹_›⟩)
 ·exact .inr (.inr ⟨rfl,‹_›⟩)
theorem qjw {t:TypeId}{td:TypeDesc}{kd x y u v b}(ht:P.underlying t=some td)(hk:kdT P t=some kd)(hx:Rep C x u)(hy:Rep C y v)(h:yu kd x y=some b):Instr.sameNow td u v=some b∧(b=true→x=y∧u=v∧Instr.sameBits 10000 v u=true):=by
 rcases qhn hk with⟨rfl,k,hu⟩|⟨rfl,hu⟩|⟨rfl,hu⟩<;>rw[hu]at ht<;>cases ht
 ·cases x<;>cases y<;>simp only[yu]at h<;>first|cases h|skip
  rename_i k1 n1 k2 n2
  have e1:=hx.int_inv
  have e2:=hy.int_inv
  subst e1;subst e2
  by_cases hkk:k1=k2
  ·subst hkk
   simp only[decide_true,cond_true,Option.some.injEq]at h
   refine⟨by simp[Instr.sameNow,h],fun hb=>?_⟩
   subst hb
   have:n1=n2:=by simpa using h
   subst this
   exact⟨rfl,rfl,by simp[Instr.sameBits]⟩
  ·simp[hkk]at h
 ·cases x<;>cases y<;>simp only[yu]at h<;>first|cases h|skip
  rename_i s1 s2
  have e1:=hx.str_inv
  have e2:=hy.str_inv
  subst e1;subst e2
  have hbeq:((⟨⟨s1⟩⟩:ByteArray) == ⟨⟨s2⟩⟩)=(s1 == s2):=by
   show(Array.mk s1 == Array.mk s2)=_
   simp
  refine⟨by simp only[Instr.sameNow,hbeq],fun hb=>?_⟩
  have hss:s1=s2:=by simpa using hb
  subst hss
  refine⟨rfl,rfl,?_⟩
  simp only[Instr.sameBits,hbeq]
  simp
 ·cases x<;>cases y<;>simp only[yu]at h<;>first|cases h|skip
  rename_i b1 b2
  have e1:=hx.bool_inv
  have e2:=hy.bool_inv
  subst e1;subst e2
  refine⟨by simp[Instr.sameNow],fun hb=>?_⟩
  have hss:b1=b2:=by simpa using hb
  subst hss
  exact⟨rfl,rfl,by simp[Instr.sameBits]⟩
theorem qck {t:TypeId}{td:TypeDesc}{kd k u}(ht:P.underlying t=some td)(hk:kdT P t=some kd)(hx:Rep C k u):∀ {es:List (AVal×AVal)} {ms:List MapEntry} {i:Nat} {r:Option (Nat×AVal)},RepE C es ms→jj kd k es i=some r →
  match r with
  |none=>Instr.findNow td u ms i=some none
  |some (j,v)=>∃m,i≤j∧es[j-i]?=some (k,v)∧ms[j-i]?=some m∧m.key=u∧Rep C v m.val∧Instr.findNow td u ms i=some (some (j,m.val))∧Instr.sameBits 10000 m.key u=true
 |_,_,i,r,.nil,h=>by
  simp only[jj,Option.some.injEq]at h
  subst h
  simp[Instr.findNow]
 |_,_,i,r,.cons k' v' es m ms h1 h2 h3,h=>by
  simp only[jj]at h
  split at h
  ·rename_i he
   cases h
   obtain⟨q1,q2⟩:=qjw ht hk hx h1 he
   obtain⟨rfl,rfl,q3⟩:=q2 rfl
   exact⟨m,Nat.le_refl _,by simp,by simp,rfl,h2,by simp[Instr.findNow,q1],q3⟩
  ·rename_i he
   obtain⟨q1,_⟩:=qjw ht hk hx h1 he
   have ih:=qck ht hk hx h3 h
   cases r with
   |none=>simp only[Instr.findNow,q1];exact ih
   |some jv=>
    obtain⟨j,v⟩:=jv
    obtain⟨m2,k1,k2,k3,k4,k5,k6,k7⟩:=ih
    refine⟨m2,by omega,?_,?_,k4,k5,by simp only[Instr.findNow,q1];exact k6,k7⟩
    ·rw[show j-i=(j-(i+1))+1 from by omega];simpa using k2
    ·rw[show j-i=(j-(i+1))+1 from by omega];simpa using k3
  ·cases h
theorem qap {t:TypeId}{kd}(hk:kdT P t=some kd)(e:Bool)(v:Value):(Instr.checkKey e 10000 t v).run P w=.ok () w:=by
 rcases qhn hk with⟨_,k,hu⟩|⟨_,hu⟩|⟨_,hu⟩<;>(unfold Instr.checkKey;simp[run_underlying hu])
theorem qbu {t:TypeId}{td:TypeDesc}{u ms r}(ht:P.underlying t=some td)(h:Instr.findNow td u ms 0=some r):(Instr.findKey t u ms).run P w=.ok r w:=by
 simp[Instr.findKey,run_underlying ht,h]
theorem qk4 {t:TypeId}{kd}(hk:kdT P t=some kd):∃td,P.underlying t=some td:=by
 rcases qhn hk with⟨_,k,hu⟩|⟨_,hu⟩|⟨_,hu⟩<;>exact⟨_,hu⟩
theorem qgu (m:MInv P C ω w0 C0 hp w)(e:EnvRel C ω w w0.heap.size env a.tmps){t kt el:TypeId}{x y ok x' y' kd zv mv kv r}(ho:o.op=.lookup t x y ok)(ht:P.underlying t=some (.map kt el))(hkd:kdT P kt=some kd)(hz:qs3 P el=some zv)
  (h1:ql x=some x') (h2:ql y=some y') (e1:qe env x'=some mv) (e2:qe env y'=some kv)
  (hv:(mv=.nilmap∧r=none)∨∃b es,mv=.map b∧hp[b]?=some (.map es)∧jj kd kv es 0=some r):
  Val P C a o w (match r with
   |some (_,v)=>bif ok then .tup [v,.bool true]else v
   |none=>bif ok then .tup [zv,.bool false]else zv):=by
 have hkr:=qn e.rep h2 e2
 have hmr:=qn e.rep h1 e1
 obtain⟨td,htd⟩:=qk4 hkd
 obtain⟨zval,hzr,hzv⟩:∃v,(∀w,(zeroValue el).run P w=.ok v w)∧Rep C zv v:=by
  unfold qs3 at hz
  split at hz
  ·rename_i i hi
   split at hz
   ·rename_i v hv
    exact⟨v,fun w=>by simp[zeroValue,typeInfo,hi,hv],qi4 C hz⟩
   ·cases hz
  ·cases hz
 have fin:∀ {ms:List MapEntry} {rv:Option (Nat×Value)},(a.eval x=.map none∧ms=[]∨∃q clock,a.eval x=.map (some q)∧w.heap[q]?=some (.map ⟨ms⟩ clock))→Instr.findNow td (a.eval y) ms 0=some rv →
   (execOp a.eval o).run P w=.ok (.value (if ok then .tuple #[(match rv with|some (_,v)=>v|none=>zval),.bool rv.isSome]else(match rv with|some (_,v)=>v|none=>zval))) w:=by
  intro ms rv hm hf
  have hfk:=qbu (w:=w) htd hf
  rcases hm with⟨hm,rfl⟩|⟨q,clock,hm,hq⟩
  ·cases rv<;>simp[execOp,ho,Instr.lookup,run_underlying ht,hm,qap hkd,hfk,hzr]
  ·cases rv<;>simp[execOp,ho,Instr.lookup,run_underlying ht,hm,yj hq (by simp),qap hkd,hfk,hzr]
 rcases hv with⟨rfl,rfl⟩|⟨b,es,rfl,hb,hfe⟩
 ·generalize hmx:a.eval x=mx at hmr
  cases hmr
  refine⟨_,fin (ms:=[]) (rv:=none) (.inl ⟨hmx,rfl⟩) (by simp[Instr.findNow]),?_⟩
  cases ok with
  |true=>exact .tup _ _ (.cons _ _ _ _ hzv (.cons _ _ _ _ (.bool _) .nil))
  |false=>exact hzv
 ·generalize hmx:a.eval x=mx at hmr
  cases hmr with
  |map _ q hbq=>
   obtain⟨ents,clock,g1,g2⟩:=m.box b _ q hb hbq
   have hf:=qck htd hkd hkr g2 hfe
   cases r with
   |none=>
    refine⟨_,fin (ms:=ents.toList) (rv:=none) (.inr ⟨q,clock,hmx,g1⟩) hf,?_⟩
    cases ok with
    |true=>exact .tup _ _ (.cons _ _ _ _ hzv (.cons _ _ _ _ (.bool _) .nil))
    |false=>exact hzv
   |some jv=>
    obtain⟨j,v⟩:=jv
    obtain⟨me,_,_,_,_,hrv,hfn,_⟩:=hf
    refine⟨_,fin (ms:=ents.toList) (rv:=some (j,me.val)) (.inr ⟨q,clock,hmx,g1⟩) hfn,?_⟩
    cases ok with
    |true=>exact .tup _ _ (.cons _ _ _ _ hrv (.cons _ _ _ _ (.bool _) .nil))
    |false=>exact hrv
theorem RepE.upd {k v:AVal}:∀ {es:List (AVal×AVal)} {ms:List MapEntry} {j:Nat} {m:MapEntry},RepE C es ms→Rep C v m.val→(∀k',(es[j]?).map (·.1)=some k'→Rep C k' m.key)→RepE C (qaw es j v) (ms.set j m)
 |_,_,j,m,.nil,_,_=>by simp[qaw];exact .nil
 |_,_,0,m,.cons k' v' es m' ms h1 h2 h3,hv,hk=>by
  simp only[qaw,List.set_cons_zero]
  exact .cons _ _ _ _ _ (hk k' (by simp)) hv h3
 |_,_,j+1,m,.cons k' v' es m' ms h1 h2 h3,hv,hk=>by
  simp only[qaw,List.set_cons_succ]
  exact .cons _ _ _ _ _ h1 h2 (RepE.upd (k:=k) h3 hv (fun k' h=>hk k' (by simpa using h)))
theorem RepE.push {k v m es ms}(h:RepE C es ms)(hk:Rep C k m.key)(hv:Rep C v m.val):RepE C (es++[(k,v)]) (ms++[m]):=by
 induction h with
 |nil=>exact .cons _ _ _ _ _ hk hv .nil
 |cons k' v' es m' ms h1 h2 _ ih=>exact .cons _ _ _ _ _ h1 h2 ih
theorem qg9 (m:MInv P C ω w0 C0 hp w)(e:EnvRel C ω w w0.heap.size env a.tmps){t kt el:TypeId}{x y z x' y' z' kd kv v b es h'}(ho:o.op=.mapUpdate t x y z∨o.op=.insert t x y z)(ht:P.underlying t=some (.map kt el))(hkd:kdT P kt=some kd)
  (h1:ql x=some x') (h2:ql y=some y') (h3:ql z=some z') (e1:qe env x'=some (.map b)) (e2:qe env y'=some kv) (e3:qe env z'=some v) (hb:hp[b]?=some (.map es))
  (hv:(∃i u,jj kd kv es 0=some (some (i,u))∧jb hp b (.map (qaw es i v))=some h')∨(jj kd kv es 0=some none∧jb hp b (.map (es++[(kv,v)]))=some h')):
  ∃w',(execOp a.eval o).run P w=.ok .skip w'∧jk P C0 w0 C a.tmps d env ⟨.undef,false,none,h'⟩ undef w':=by
 have hkr:=qn e.rep h2 e2
 have hvr:=qn e.rep h3 e3
 have hmr:=qn e.rep h1 e1
 obtain⟨td,htd⟩:=qk4 hkd
 generalize hmx:a.eval x=mx at hmr
 cases hmr with
 |map _ q hbq=>
  obtain⟨ents,clock,g1,g2⟩:=m.box b _ q hb hbq
  have hlt:=(m.lt b q hbq).1
  have done:∀(es':List (AVal×AVal)) (ms':Array MapEntry) (clock':Nat),RepE C es' ms'.toList→jb hp b (.map es')=some h' →
    (execOp a.eval o).run P w=.ok .skip (zm w q (.map ms' clock'))→∃w',(execOp a.eval o).run P w=.ok .skip w'∧jk P C0 w0 C a.tmps d env ⟨.undef,false,none,h'⟩ undef w':=by
   intro es' ms' clock' hre hset hrun
   obtain rfl:=qa2 hset
   have hu:=qcb (w:=w) (r:=q) (x:=.map ms' clock') hlt (by simp)
   exact⟨_,hrun,C,ω,Ctx.le_refl C,m.updBox hu hbq _ (fun _ _ _ _ _ h=>h) ⟨ms',clock',qbj hlt,hre⟩,e.updβ hu hbq,.undef,by simp⟩
  rcases hv with⟨i,u,hf,hset⟩|⟨hf,hset⟩
  ·obtain⟨me,_,k1,k2,k3,k4,k5,k6⟩:=qck htd hkd hkr g2 hf
   have hfk:=qbu (w:=w) htd k5
   simp only[Nat.sub_zero]at k1 k2
   have hei:ents[i]?=some me:=by simpa using k2
   have hlen:i<ents.size:=(Array.getElem?_eq_some_iff.1 hei).1
   refine done (qaw es i v) (ents.modify i fun e=>{ e with key:=a.eval y,val:=a.eval z }) clock ?_ hset ?_
   ·have:(ents.modify i fun e=>{ e with key:=a.eval y,val:=a.eval z }).toList=ents.toList.set i { me with key:=a.eval y,val:=a.eval z }:=by
     apply List.ext_getElem?
     intro j
     rw[Array.getElem?_toList,Array.getElem?_modify,List.getElem?_set]
     by_cases hij:i=j
     ·subst hij
      have hgi:=(Array.getElem?_eq_some_iff.1 hei).2
      simp[hlen,hgi]
     ·simp[hij]
    rw[this]
    refine RepE.upd (k:=kv) g2 hvr (fun k' hk'=>?_)
    rw[k1]at hk'
    cases hk'
    exact hkr
   ·have hset':=kw (P:=P) (x:=.map (ents.modify i fun e=>{ e with key:=a.eval y,val:=a.eval z }) clock) g1 (by simp)
    have hstay:∀w:World,(Instr.keyThatStays (((ents[i]?).map (·.key)).getD (a.eval y)) (a.eval y)).run P w=.ok (a.eval y) w:=by
     intro w
     simp[Instr.keyThatStays,hei,k6]
    rcases ho with ho|ho<;>simp only[execOp,ho,Instr.mapUpdate,Sem.run_bind,run_underlying ht,Result.andThen_ok,hmx,yj g1 (by simp),qap hkd,hfk,hstay,hset',Sem.run_pure]
  ·have hf':=qck htd hkd hkr g2 hf
   have hfk:=qbu (w:=w) htd hf'
   refine done (es++[(kv,v)]) (ents.push { key:=a.eval y,val:=a.eval z,born:=clock }) (clock+1) ?_ hset ?_
   ·rw[Array.toList_push]
    exact g2.push hkr hvr
   ·have hset':=kw (P:=P) (x:=.map (ents.push { key:=a.eval y,val:=a.eval z,born:=clock }) (clock+1)) g1 (by simp)
    rcases ho with ho|ho<;>simp only[execOp,ho,Instr.mapUpdate,Sem.run_bind,run_underlying ht,Result.andThen_ok,hmx,yj g1 (by simp),qap hkd,hfk,hset',Sem.run_pure]
end
section
variable {P:Program}{C C0:Ctx}{ω:Nat→Option Loc}{w w' w0:World}{hp:qi}{env:Env}{a:Act}{o:Oper}{tmps:Array Value}{d:Loc}
theorem qmh {n sz len cap:Nat}{base:Option Addr}{cs:List Value}(hl:cs.length=n*sz)(h:∀ad,base=some ad→∀j v,cs[j]?=some v→w.cell? (ad.add j)=some v)(hn:base=none→n=0):
  (Builtin.firstCells sz n (.slice base len cap)).run P w=.ok cs.toArray w:=by
 cases base with
 |none=>
  have:cs=[]:=by
   have:=hn rfl
   subst this
   exact List.length_eq_zero_iff.1 (by simpa using hl)
  subst this
  exact run_firstCells_none _ _ _ _ _
 |some ad=>exact run_firstCells_some w _ _ _ _ _ cs hl (h ad rfl)
theorem qwf (m:MInv P C ω w0 C0 hp w)(e:EnvRel C ω w w0.heap.size env a.tmps){c:Call}{t:TypeId}{ts:List TypeId}{el:TypeId}{x y x' y' sz b q len n vy us cs cs' h'}
  (ho:o.op=.call c) (hcb:c.callee=.builtin .copy) (hca:c.args.toList=[x,y]) (hct:c.argTypes.toList=t::ts) (ht:P.underlying t=some (.slice el)) (hn:qy P el=some sz)
  (h1:ql x=some x') (h2:ql y=some y') (e1:qe env x'=some (.ms b q len)) (e2:qe env y'=some vy) (hbc:ja hp b=some cs) (hsrc:qh9 sz len vy=some (n,us)) (hst:zn cs q us=some cs') (hul:us.length=n*sz) (hset:jb hp b (.cells cs')=some h'):
  ∃u w',(execOp a.eval o).run P w=.ok (.value u) w'∧jk P C0 w0 C a.tmps d env ⟨.int .i64 n,false,none,h'⟩ u w':=by
 obtain⟨r,cap,hr,hle,hq⟩:=(qn e.rep h1 e1).ms_inv
 have ry:=qn e.rep h2 e2
 unfold zn at hst
 cases hb:(Nat.ble (q+us.length) cs.length&&us.all qf)with
 |false=>simp[hb]at hst
 |true=>
  simp only[hb,cond_true,Option.some.injEq]at hst
  simp only[Bool.and_eq_true]at hb
  subst hst
  -- the source
  obtain⟨news,base,sl,sc,hy,hnews,hcells,hmin,hbase⟩:∃news base sl sc,a.eval y=.slice base sl sc∧RepL C us news∧(∀ad,base=some ad→∀j v,news[j]?=some v→w.cell? (ad.add j)=some v)∧Nat.min sl len=n∧(base=none→n=0):=by
   unfold qh9 at hsrc
   split at hsrc
   ·rename_i nn sy ys
    cases hk:(Nat.beq sz sy||ys.isEmpty)with
    |false=>simp[hk]at hsrc
    |true=>
     simp only[hk,cond_true,Option.some.injEq,Prod.mk.injEq]at hsrc
     obtain⟨rfl,rfl⟩:=hsrc
     generalize a.eval y=vv at ry
     cases ry with
     |lnil=>exact⟨[],none,0,0,rfl,by simpa using RepI.nil,by simp,by simp[Nat.min_def],by simp⟩
     |lemp _ ad _=>exact⟨[],some ad,0,0,rfl,by simpa using RepI.nil,by simp,by simp,by simp⟩
     |list _ _ r' o' cap' hl hrow=>
      have hc:RepC C r' ((ys.take len).flatMap AVal.flat) o':=RepRow.cells (RepRow.take len hrow)
      obtain⟨vs,k1,k2⟩:=hc.vals
      refine⟨vs,some ⟨r',o',none⟩,ys.length,cap',rfl,k1,?_,rfl,by simp⟩
      intro ad had j v hj
      cases had
      rw[add_lit]
      exact m.know _ _ _ (k2 j v hj)
   ·cases hsrc
  have hone:=ko hnews (by simpa using hb.2)
  obtain⟨vs,te,hg,hfit,m',e'⟩:=qoh m e (ym hbc) hr hnews hone (Nat.le_of_ble_eq_true hb.1)
  obtain rfl:=qa2 hset
  have hfc:=qmh (P:=P) (w:=w) (n:=n) (sz:=sz) (len:=sl) (cap:=sc) (base:=base) (cs:=news) (by rw[hnews.length,hul]) hcells hbase
  have hstr:=run_storeCells_at (P:=P) r q te news 0 vs w hg (by simpa using hfit) hone
  simp only[Nat.add_zero]at hstr
  have hrun:(Builtin.copy_ c.argTypes o.type (c.args.map a.eval)).run P w=.ok (goInt n) (w.setRow r (vs.toList.take q++news++vs.toList.drop (q+news.length)).toArray):=by
   have ha:c.args.map a.eval=#[a.eval x,a.eval y]:=by
    apply Array.ext';simp[hca]
   have hat:c.argTypes[0]?=some t:=by rw[←Array.getElem?_toList,hct];rfl
   rw[ha]
   simp only[Builtin.copy_,hat,List.getElem?_toArray,List.getElem?_cons_zero,List.getElem?_cons_succ,Sem.run_bind,run_underlying ht,Result.andThen_ok,hq,hy,Builtin.lenOf,Sem.run_pure,hmin,j9 hn,hfc,hstr]
  refine⟨goInt n,_,?_,C,ω,Ctx.le_refl C,m',e',?_,by simp⟩
  ·have ha:Array.map a.eval c.args=#[a.eval x,a.eval y]:=by
    apply Array.ext';simp[hca]
   rw[ha]at hrun
   simp[execOp,ho,resolve,hcb,ha,invoke,builtin,hrun]
  ·exact .int _ _
theorem RepE.erase:∀ {es:List (AVal×AVal)} {ms:List MapEntry} (j:Nat),RepE C es ms→RepE C (es.eraseIdx j) (ms.eraseIdx j)
 |_,_,j,.nil=>by simpa using RepE.nil
 |_,_,0,.cons k' v' es m' ms h1 h2 h3=>by simpa using h3
 |_,_,j+1,.cons k' v' es m' ms h1 h2 h3=>by simpa using .cons _ _ _ _ _ h1 h2 (RepE.erase j h3)
theorem qsh (m:MInv P C ω w0 C0 hp w)(e:EnvRel C ω w w0.heap.size env a.tmps){c}{t kt el:TypeId}{ts x y x' y' kd kv b es h' r}
  (ho:o.op=.call c) (hcb:c.callee=.builtin .delete) (hca:c.args.toList=[x,y]) (hct:c.argTypes.toList=t::ts) (ht:P.underlying t=some (.map kt el)) (hkd:kdT P kt=some kd)
  (h1:ql x=some x') (h2:ql y=some y') (e1:qe env x'=some (.map b)) (e2:qe env y'=some kv) (hb:hp[b]?=some (.map es))
  (hf:jj kd kv es 0=some r) (hset:jb hp b (.map (qno es r))=some h'):
  ∃u w',(execOp a.eval o).run P w=.ok (.value u) w'∧jk P C0 w0 C a.tmps d env ⟨.tup [],false,none,h'⟩ u w':=by
 have hkr:=qn e.rep h2 e2
 have hmr:=qn e.rep h1 e1
 obtain⟨td,htd⟩:=qk4 hkd
 have ha:Array.map a.eval c.args=#[a.eval x,a.eval y]:=by
  apply Array.ext';simp[hca]
 have hat:c.argTypes[0]?=some t:=by rw[←Array.getElem?_toList,hct];rfl
 generalize hmx:a.eval x=mx at hmr
 cases hmr with
 |map _ q hbq=>
  obtain⟨ents,clock,g1,g2⟩:=m.box b _ q hb hbq
  have hlt:=(m.lt b q hbq).1
  have done:∀(es':List (AVal×AVal)) (ms':Array MapEntry),RepE C es' ms'.toList→jb hp b (.map es')=some h' →
    (Builtin.delete_ c.argTypes o.type #[.map (some q),a.eval y]).run P w=.ok (.tuple #[]) (zm w q (.map ms' clock))→∃u w',(execOp a.eval o).run P w=.ok (.value u) w'∧jk P C0 w0 C a.tmps d env ⟨.tup [],false,none,h'⟩ u w':=by
   intro es' ms' hre hset hrun
   obtain rfl:=qa2 hset
   have hu:=qcb (w:=w) (r:=q) (x:=.map ms' clock) hlt (by simp)
   refine⟨.tuple #[],_,?_,C,ω,Ctx.le_refl C,m.updBox hu hbq _ (fun _ _ _ _ _ h=>h) ⟨ms',clock,qbj hlt,hre⟩,e.updβ hu hbq,.tup _ _ .nil,by simp⟩
   simp[execOp,ho,resolve,hcb,ha,hmx,invoke,builtin,hrun]
  have hfn:=qck htd hkd hkr g2 hf
  cases r with
  |none=>
   have hfk:=qbu (w:=w) htd hfn
   refine done es ents g2 hset ?_
   have hset':=kw (P:=P) (x:=.map ents clock) g1 (by simp)
   simp only[Builtin.delete_,hat,List.getElem?_toArray,List.getElem?_cons_zero,List.getElem?_cons_succ,Sem.run_bind,run_underlying ht,Result.andThen_ok,yj g1 (by simp),qap hkd,hfk,hset',Sem.run_pure]
  |some jv=>
   obtain⟨j,v⟩:=jv
   obtain⟨me,_,k1,k2,k3,k4,k5,k6⟩:=hfn
   have hfk:=qbu (w:=w) htd k5
   refine done (es.eraseIdx j) (ents.eraseIdxIfInBounds j) ?_ hset ?_
   ·have:(ents.eraseIdxIfInBounds j).toList=ents.toList.eraseIdx j:=by simp
    rw[this];exact RepE.erase j g2
   ·have hset':=kw (P:=P) (x:=.map (ents.eraseIdxIfInBounds j) clock) g1 (by simp)
    simp only[Builtin.delete_,hat,List.getElem?_toArray,List.getElem?_cons_zero,List.getElem?_cons_succ,Sem.run_bind,run_underlying ht,Result.andThen_ok,yj g1 (by simp),qap hkd,hfk,hset',Sem.run_pure]
end
section
variable {P:Program}{p:je}{xc:XC}{C C0:Ctx}{ω:Nat→Option Loc}{w w0:World}{hp:qi}{env:Env}{a:Act}{o:Oper}{d:Loc}{h:qt}{md:CMode}{r h0:Nat}{dst:Option Nat}{al:Option (List Nat)}{aop:AOp}{res:ORes}
def jz (P:Program)(C C0:Ctx)(w0:World)(a:Act)(d:Loc)(env:Env)(o:Oper)(w:World)(res:ORes):Prop:=
 (∃v w',(execOp a.eval o).run P w=.ok (.value v) w'∧jk P C0 w0 C a.tmps d env res v w') ∨
 (∃w',(execOp a.eval o).run P w=.ok .skip w'∧jk P C0 w0 C a.tmps d env res undef w') ∨
 (∃f args,(execOp a.eval o).run P w=.ok (.enter f args) w∧CallsIn Fence.wide 0 P f args w fun e w'=>∃v,e=.returned v∧jk P C0 w0 C a.tmps d env res v w') ∨
 (∃l f tmps assign body,(execOp a.eval o).run P w=.ok (.round l f tmps assign body) w∧RoundIn Fence.wide 0 P l f tmps assign body w fun e w'=>∃v,e=.returned v∧jk P C0 w0 C a.tmps d env res v w')
theorem qu (m:MInv P C ω w0 C0 hp w)(e:EnvRel C ω w w0.heap.size env a.tmps){x}(hv:Val P C a o w x):jz P C C0 w0 a d env o w ⟨x,false,none,hp⟩:=by
 obtain⟨v,h1,h2⟩:=hv
 exact .inl ⟨v,w,h1,qo3 m e h2⟩
theorem qp {x}(hs:val hp x=some res):res=⟨x,false,none,hp⟩:=by simpa[val]using hs.symm
theorem qad {x}(hs:y9 hp x=some res):∃v,x=some v∧res=⟨v,false,none,hp⟩:=by
 cases x with
 |none=>simp[y9]at hs
 |some v=>exact⟨v,rfl,by simpa[y9]using hs.symm⟩
theorem qcs (m:MInv P C ω w0 C0 hp w)(e:EnvRel C ω w w0.heap.size env a.tmps){x}(ho:o.op=.move x∨o.op=.assign x){y}(hc:ql x=some y)(hs:qg env hp (.move y)=some res):jz P C C0 w0 a d env o w res:=by
 simp only[qg]at hs
 obtain⟨v,hv,rfl⟩:=qad hs
 exact qu m e (qu4 e.rep ho hc hv)
theorem qnh (m:MInv P C ω w0 C0 hp w)(e:EnvRel C ω w w0.heap.size env a.tmps){s}(ho:o.op=.move (.tmp s)∨o.op=.assign (.tmp s))(hs:qg env hp (.take s)=some res):jz P C C0 w0 a d env o w res:=by
 simp only[qg]at hs
 split at hs
 ·rename_i v ow hl
  cases hs
  exact .inl (qvu m e ho hl)
 ·cases hs
theorem qw0 (m:MInv P C ω w0 C0 hp w)(e:EnvRel C ω w w0.heap.size env a.tmps){x}(ho:o.op=.move x)(hc:cOp P h md r dst (.move x)=some aop)(hs:qb p xc h0 al env hp aop=some res):jz P C C0 w0 a d env o w res:=by
 simp only[cOp]at hc
 split at hc
 ·rename_i s ht
  cases hc
  unfold qqy at ht
  split at ht
  ·split at ht
   ·cases ht;exact qnh m e (.inl ho) hs
   ·cases ht
  ·cases ht
 ·obtain⟨y,hy,rfl⟩:=Option.map_eq_some_iff.1 hc
  exact qcs m e (.inl ho) hy hs
theorem qrh (m:MInv P C ω w0 C0 hp w)(e:EnvRel C ω w w0.heap.size env a.tmps){x}(ho:o.op=.assign x)(hc:cOp P h md r dst (.assign x)=some aop)(hs:qb p xc h0 al env hp aop=some res):jz P C C0 w0 a d env o w res:=by
 cases x with
 |tmp s=>simp only[cOp]at hc;cases hc;exact qnh m e (.inr ho) hs
 |const v=>simp only[cOp]at hc;obtain⟨y,hy,rfl⟩:=Option.map_eq_some_iff.1 hc;exact qcs m e (.inr ho) hy hs
 |func v=>simp only[cOp]at hc;obtain⟨y,hy,rfl⟩:=Option.map_eq_some_iff.1 hc;exact qcs m e (.inr ho) hy hs
 |global v=>simp only[cOp]at hc;obtain⟨y,hy,rfl⟩:=Option.map_eq_some_iff.1 hc;exact qcs m e (.inr ho) hy hs
theorem qv0 (m:MInv P C ω w0 C0 hp w)(e:EnvRel C ω w w0.heap.size env a.tmps){c x y}(ho:o.op=.pick c x y)(hc:cOp P h md r dst (.pick c x y)=some aop)(hs:qb p xc h0 al env hp aop=some res):jz P C C0 w0 a d env o w res:=by
 simp only[cOp]at hc
 split at hc
 ·rename_i c' x' y' h1 h2 h3
  cases hc
  simp only[qb,qg]at hs
  split at hs
  ·rename_i b e1
   split at hs
   ·rename_i u v e2 e3
    obtain rfl:=qp hs
    exact qu m e (qwl e.rep ho h1 h2 h3 e1 e2 e3)
   ·cases hs
  ·cases hs
 ·cases hc
theorem qok (m:MInv P C ω w0 C0 hp w)(e:EnvRel C ω w w0.heap.size env a.tmps){x}(ho:o.op=.nilCheck x)(hc:cOp P h md r dst (.nilCheck x)=some aop)(hs:qb p xc h0 al env hp aop=some res):jz P C C0 w0 a d env o w res:=by
 simp only[cOp]at hc
 obtain⟨y,hy,rfl⟩:=Option.map_eq_some_iff.1 hc
 simp only[qb,qg]at hs
 split at hs
 ·rename_i b q hv;obtain rfl:=qp hs;exact qu m e (qhg e.rep ho hy hv (.inl ⟨_,_,rfl⟩))
 ·rename_i z hv;obtain rfl:=qp hs;exact qu m e (qhg e.rep ho hy hv (.inr ⟨_,rfl⟩))
 ·rename_i f u v hv
  obtain rfl:=qp hs
  have hr:=qn e.rep hy hv
  refine qu m e ⟨a.eval x,?_,hr⟩
  generalize hx:a.eval x=ev at hr
  cases hr with
  |fn f f' u v as bs hf ha hb=>
   simp only[RepFn]at hf
   subst hf
   simp[execOp,ho,hx]
 ·cases hs
theorem qze (m:MInv P C ω w0 C0 hp w)(e:EnvRel C ω w w0.heap.size env a.tmps){op}{t:TypeId}{x}(ho:o.op=.unOp op t x)(hc:cOp P h md r dst (.unOp op t x)=some aop)(hs:qb p xc h0 al env hp aop=some res):jz P C C0 w0 a d env o w res:=by
 simp only[cOp]at hc
 obtain⟨y,hy,rfl⟩:=Option.map_eq_some_iff.1 hc
 simp only[qb,qg]at hs
 split at hs
 ·rename_i v hv
  obtain⟨u,hu,rfl⟩:=qad hs
  exact qu m e (qzq e.rep ho hy hv hu)
 ·cases hs
theorem qvn (m:MInv P C ω w0 C0 hp w)(e:EnvRel C ω w w0.heap.size env a.tmps){s t:TypeId}{x}(ho:o.op=.convert s t x)(hc:cOp P h md r dst (.convert s t x)=some aop)(hs:qb p xc h0 al env hp aop=some res):jz P C C0 w0 a d env o w res:=by
 simp only[cOp]at hc
 split at hc
 ·rename_i k0 k u1 u2
  obtain⟨y,hy,rfl⟩:=Option.map_eq_some_iff.1 hc
  simp only[qb,qg]at hs
  split at hs
  ·rename_i k1 n hv
   obtain rfl:=qp hs
   exact qu m e (qws e.rep ho u1 u2 hy hv)
  ·cases hs
 ·rename_i u1 u2
  obtain⟨y,hy,rfl⟩:=Option.map_eq_some_iff.1 hc
  simp only[qb,qg]at hs
  split at hs
  ·rename_i l hv
   obtain rfl:=qp hs
   exact qu m e (qpk e.rep ho u1 u2 hy hv ⟨_,rfl⟩)
  ·rename_i k1 n hv
   obtain rfl:=qp hs
   exact qu m e (qn0 e.rep ho u1 u2 hy hv)
  ·cases hs
 ·rename_i k0 u1 u2
  obtain⟨y,hy,rfl⟩:=Option.map_eq_some_iff.1 hc
  simp only[qb,qg]at hs
  split at hs
  ·rename_i l hv
   obtain rfl:=qp hs
   exact qu m e (qpa e.rep ho u1 u2 hy hv ⟨_,rfl⟩)
  ·rename_i k1 n hv
   obtain rfl:=qp hs
   exact qu m e (qpy e.rep ho u1 u2 hy hv)
  ·cases hs
 ·cases hc
theorem qqk {ag n y}(hs:qg env hp (.vload ag n y)=some res):j0 h0 al env hp (.load ag n y)=some res:=by
 simp only[qg]at hs
 simp only[j0]
 split at hs
 ·rename_i v hv
  rw[hv];exact hs
 ·cases hs
theorem qmf {g}:∀ {l:List (String×List Int)} {cs:List Int},qj4 P g l=some cs→∃n,(n,cs)∈l∧P.globalNamed n=some g
 | [],_,h=>by simp[qj4]at h
 |(n,ds)::l,cs,h=>by
  simp only[qj4]at h
  split at h
  ·rename_i hn
   cases h
   exact⟨n,List.mem_cons_self ..,by simpa using hn⟩
  ·obtain⟨n',h1,h2⟩:=qmf h
   exact⟨n',List.mem_cons_of_mem _ h1,h2⟩
theorem qtl {ns:List Int}:RepL C (ns.map (AVal.int .i64)) (ns.map (Value.int .i64)):=by
 induction ns with
 |nil=>exact .nil
 |cons n ns ih=>exact .cons _ _ _ _ (.int _ _) ih
theorem quc (m:MInv P C ω w0 C0 hp w)(e:EnvRel C ω w w0.heap.size env a.tmps){t:TypeId}{g}(ho:o.op=.load t (.global g))(hc:cOp P h md r dst (.load t (.global g))=some aop)(hs:qb p xc h0 al env hp aop=some res):jz P C C0 w0 a d env o w res:=by
 have hc:qnd P t g=some aop:=hc
 unfold qnd at hc
 split at hc
 ·rename_i cs n hf hg hn
  split at hc
  ·rename_i hl
   cases hc
   have hl:cs.length=n:=by simpa using hl
   simp only[qb,qg,qe]at hs
   obtain⟨u,hu,rfl⟩:=qad hs
   cases hu
   obtain⟨nm,hmem,hnm⟩:=qmf hf
   have ht:=(m.tabs g (.inr (.inr ⟨_,hmem,hnm⟩))).2.2.2 _ hmem hnm
   have hcell:∀j v,(cs.map (Value.int .i64))[j]?=some v→w.cell? ⟨g,0+j,none⟩=some v:=by
    intro j v hj
    rw[List.getElem?_map,Option.map_eq_some_iff]at hj
    obtain⟨i,hi,rfl⟩:=hj
    rw[Nat.zero_add]
    exact ht j i hi
   have hload:=qbt (P:=P) (w:=w) hg hn (vs:=cs.map (Value.int .i64)) (by simpa using hl) hcell
   refine qu m e ⟨.agg ⟨cs.map (Value.int .i64)⟩,?_,.agg _ _ qtl⟩
   have hev:a.eval (.global g)=.pointer (some ⟨g,0,none⟩):=rfl
   simp[execOp,ho,Instr.loadAt,hev,Instr.sureAddr,hload]
  ·cases hc
 ·cases hc
theorem qwh (m:MInv P C ω w0 C0 hp w)(e:EnvRel C ω w w0.heap.size env a.tmps){t:TypeId}{x}(ho:o.op=.load t x)(hc:cOp P h md r dst (.load t x)=some aop)(hs:qb p xc h0 al env hp aop=some res):jz P C C0 w0 a d env o w res:=by
 have key:∀ {ag:Bool} {n:Nat} {y:qz},zb P t=some ag→qy P t=some n→(ag=false→n=1)→ql x=some y→j0 h0 al env hp (.load ag n y)=some res→jz P C C0 w0 a d env o w res:=by
  intro ag n y hg hn h1n hy hs
  simp only[j0]at hs
  split at hs
  ·rename_i b q hv
   cases hk:jf h0 al b with
   |false=>simp[hk]at hs
   |true=>
    simp only[hk,cond_true]at hs
    split at hs
    ·rename_i cs hcs
     split at hs
     ·rename_i us hus
      cases ag with
      |true=>
       simp only[cond_true]at hs
       obtain rfl:=qp hs
       exact qu m e (qjo m e.rep ho hg hn h1n hy hv (.inl ⟨b,q,cs,us,rfl,hcs,hus,.inl ⟨rfl,rfl⟩⟩))
      |false=>
       simp only[cond_false]at hs
       split at hs
       ·obtain rfl:=qp hs
        exact qu m e (qjo m e.rep ho hg hn h1n hy hv (.inl ⟨b,q,cs,_,rfl,hcs,hus,.inr ⟨rfl,rfl⟩⟩))
       ·cases hs
     ·cases hs
    ·cases hs
  ·rename_i z hv
   cases hk:(Bool.xor ag z.isAgg||!(Nat.beq z.flat.length n))with
   |true=>simp[hk]at hs
   |false=>
    simp only[hk,cond_false]at hs
    obtain rfl:=qp hs
    simp only[Bool.or_eq_false_iff,Bool.not_eq_false']at hk
    exact qu m e (qjo m e.rep ho hg hn h1n hy hv (.inr ⟨rfl,hk.1,Nat.eq_of_beq_eq_true hk.2⟩))
  ·rename_i b ver q hv
   cases hk:qbv h0 al b with
   |false=>simp[hk]at hs
   |true=>
    simp only[hk,cond_true]at hs
    split at hs
    ·rename_i sz ver' xs hbx
     cases hk2:(Nat.beq ver ver'&&Nat.ble (q+n) (xs.flatMap AVal.flat).length)with
     |false=>rw[hk2]at hs;cases hs
     |true=>
      rw[hk2]at hs
      simp only[cond_true]at hs
      simp only[Bool.and_eq_true]at hk2
      obtain rfl:=Nat.eq_of_beq_eq_true hk2.1
      have hl:=Nat.le_of_ble_eq_true hk2.2
      cases ag with
      |true=>
       simp only[cond_true]at hs
       obtain rfl:=qp hs
       exact qu m e (ql1 m e.rep ho hg hn hy hv hbx hl (.inl ⟨rfl,rfl⟩))
      |false=>
       simp only[cond_false]at hs
       split at hs
       ·rename_i z hz
        obtain rfl:=qp hs
        exact qu m e (ql1 m e.rep ho hg hn hy hv hbx hl (.inr ⟨rfl,hz⟩))
       ·cases hs
    ·cases hs
  ·cases hs
 by_cases hx:∃g,x=.global g
 ·obtain⟨g,rfl⟩:=hx
  exact quc m e ho hc hs
 have hc:(match zb P t,qy P t,ql x with
  |some false,some 1,some x=>if(dst.map (h.takes.contains ·)).getD false then some (AOp.loadTake ((dst.bind fun d=>h.offs.find? fun y=>y.1 == d).map (·.2)) x)else some (bif (dst.map (h.vl.contains ·)).getD false then .vload false 1 x else .load false 1 x)
  |some true,some n,some x=>some (bif (dst.map (h.vl.contains ·)).getD false then .vload true n x else .load true n x)
  |_,_,_=>none)=some aop:=by
  cases x with
  |global g=>exact absurd ⟨g,rfl⟩ hx
  |_=>exact hc
 split at hc
 ·rename_i y hg hn hy
  split at hc
  ·cases hc
   simp only[qb,qj]at hs
   split at hs
   ·rename_i b q hv
    generalize (jf h0 al b&&qde _ q)=kk at hs
    cases kk with
    |false=>simp at hs
    |true=>
     simp only[cond_true]at hs
     split at hs
     ·rename_i cs hcs
      split at hs
      ·rename_i v ow hq
       split at hs
       ·rename_i h' hset
        cases hs
        exact .inl (qn6 m e ho hg hy hv hcs hq hset)
       ·cases hs
      ·cases hs
     ·cases hs
   ·cases hs
  ·cases hc
   generalize (dst.map (h.vl.contains ·)).getD false=bb at hs
   cases bb with
   |false=>exact key hg hn (fun _=>rfl) hy hs
   |true=>exact key hg hn (fun _=>rfl) hy (qqk hs)
 ·rename_i n y hg hn hy
  cases hc
  generalize (dst.map (h.vl.contains ·)).getD false=bb at hs
  cases bb with
  |false=>exact key hg hn (by simp) hy hs
  |true=>exact key hg hn (by simp) hy (qqk hs)
 ·cases hc
theorem qs6 (m:MInv P C ω w0 C0 hp w)(e:EnvRel C ω w w0.heap.size env a.tmps){t:TypeId}{x y}(ho:o.op=.store t x y)(hvd:aop.vdst=none)(hc:cOp P h md r dst (.store t x y)=some aop)(hs:qb p xc h0 al env hp aop=some res):jz P C C0 w0 a d env o w res:=by
 simp only[cOp]at hc
 split at hc
 ·rename_i n x' y' hn h1 h2
  cases hvt:qsv h x' with
  |some s=>rw[hvt]at hc;simp only[Option.some.injEq]at hc;subst hc;simp[AOp.vdst]at hvd
  |none=>
  rw[hvt]at hc
  simp only[Option.some.injEq]at hc
  subst hc
  simp only[qb,qj]at hs
  split at hs
  ·rename_i b q v e1 e2
   cases hk:jf h0 al b with
   |false=>simp[hk]at hs
   |true=>
    simp only[hk,cond_true]at hs
    split at hs
    ·rename_i cs hcs
     split at hs
     ·rename_i s hown
      cases hb:(Nat.beq n 1&&v.isList&&Nat.blt q cs.length)with
      |false=>simp[hb]at hs
      |true=>
       simp only[hb,cond_true]at hs
       simp only[Bool.and_eq_true]at hb
       obtain⟨⟨hb1,hb2⟩,hb3⟩:=hb
       obtain rfl:=Nat.eq_of_beq_eq_true hb1
       split at hs
       ·rename_i h' hset
        cases hs
        exact .inr (.inl (qn7 m e ho hn h1 h2 e1 e2 hcs hb2 (Nat.blt_eq.mp hb3) hown hset))
       ·cases hs
     ·cases hb:Nat.beq v.flat.length n with
      |false=>simp[hb]at hs
      |true=>
       simp only[hb,cond_true]at hs
       split at hs
       ·rename_i cs' hst
        split at hs
        ·rename_i h' hset
         obtain rfl:=qp hs
         exact .inr (.inl (qus m e ho hn h1 h2 e1 e2 hcs (Nat.eq_of_beq_eq_true hb) hst hset))
        ·cases hs
       ·cases hs
    ·cases hs
  ·cases hs
 ·cases hc
theorem qtg {P}{t:TypeId}{e:TypeId}(h:qv3 P t=some e):∃sz,zd P t=some [.nilptr,.list true sz []]:=by
 unfold qv3 at h
 split at h
 ·split at h
  ·split at h
   ·split at h
    ·rename_i sz h1 h2
     exact⟨_,h2⟩
    ·cases h
   ·cases h
  ·cases h
 ·cases h
theorem qt7 (m:MInv P C ω w0 C0 hp w)(e:EnvRel C ω w w0.heap.size env a.tmps){t:TypeId}(ho:o.op=.alloc t)(hc:cOp P h md r dst (.alloc t)=some aop)(hs:qb p xc h0 al env hp aop=some res):jz P C C0 w0 a d env o w res:=by
 simp only[cOp]at hc
 split at hc
 ·rename_i e' he
  cases hc
  obtain⟨sz,hz⟩:=qtg he
  simp only[qb,qj]at hs
  split at hs
  ·rename_i h' hn
   obtain rfl:=qp hs
   exact .inl (qxt m e ho hz hn)
  ·cases hs
 generalize (dst.map (h.vl.contains ·)).getD false=bb at hc
 cases bb with
 |true=>
  simp only[cond_true]at hc
  split at hc
  ·rename_i z hz
   cases hb:z.all qf with
   |false=>rw[hb]at hc;cases hc
   |true=>
    rw[hb]at hc
    simp only[cond_true,Option.some.injEq]at hc
    subst hc
    simp only[qb,qg,Option.some.injEq]at hs
    subst hs
    exact .inl (qsd m e ho hz)
  ·cases hc
 |false=>
 simp only[cond_false]at hc
 obtain⟨z,hz,rfl⟩:=Option.map_eq_some_iff.1 hc
 simp only[qb,qj]at hs
 cases hb:z.all qf with
 |false=>simp[hb]at hs
 |true=>
  simp only[hb,cond_true]at hs
  split at hs
  ·rename_i h' hn
   obtain rfl:=qp hs
   exact .inl (qtj m e ho hz (by simpa using hb) hn)
  ·cases hs
theorem qxz (m:MInv P C ω w0 C0 hp w)(e:EnvRel C ω w w0.heap.size env a.tmps){t:TypeId}{x}(ho:o.op=.box t x)(hc:cOp P h md r dst (.box t x)=some aop)(hs:qb p xc h0 al env hp aop=some res):jz P C C0 w0 a d env o w res:=by
 simp only[cOp]at hc
 split at hc
 ·rename_i n x' hn h1
  cases hc
  generalize (dst.map (h.vl.contains ·)).getD false=bb at hs
  cases bb with
  |true=>
   simp only[cond_true,qb,qg]at hs
   split at hs
   ·rename_i v hv
    cases hb:(Nat.beq v.flat.length n&&v.flat.all qf)with
    |false=>simp[hb]at hs
    |true=>
     simp only[hb,cond_true]at hs
     simp only[Bool.and_eq_true]at hb
     obtain rfl:=qp hs
     exact .inl (qvp m e ho h1 hv hb.2)
   ·cases hs
  |false=>
   simp only[cond_false]at hs
   simp only[qb,qj]at hs
   split at hs
   ·rename_i v hv
    cases hb:(Nat.beq v.flat.length n&&v.flat.all qf)with
    |false=>simp[hb]at hs
    |true=>
     simp only[hb,cond_true]at hs
     simp only[Bool.and_eq_true]at hb
     split at hs
     ·rename_i h' hn'
      obtain rfl:=qp hs
      exact .inl (qyo m e ho h1 hv hb.2 hn')
     ·cases hs
   ·cases hs
 ·cases hc
theorem qpr (m:MInv P C ω w0 C0 hp w)(e:EnvRel C ω w w0.heap.size env a.tmps){i x}(ho:o.op=.extract x i)(hc:cOp P h md r dst (.extract x i)=some aop)(hs:qb p xc h0 al env hp aop=some res):jz P C C0 w0 a d env o w res:=by
 simp only[cOp]at hc
 obtain⟨y,hy,rfl⟩:=Option.map_eq_some_iff.1 hc
 simp only[qb,qg]at hs
 split at hs
 ·rename_i vs hv
  obtain⟨u,hu,rfl⟩:=qad hs
  exact qu m e (qp6 e.rep ho hy hv hu)
 ·cases hs
theorem qoc (m:MInv P C ω w0 C0 hp w)(e:EnvRel C ω w w0.heap.size env a.tmps){f xs ys}(ho:o.op=.makeFunc f xs ys)(hc:cOp P h md r dst (.makeFunc f xs ys)=some aop)(hs:qb p xc h0 al env hp aop=some res):jz P C C0 w0 a d env o w res:=by
 simp only[cOp]at hc
 split at hc
 ·split at hc
  ·rename_i k xs' ys' h1 h2
   cases hc
   simp only[qb,qg]at hs
   split at hs
   ·rename_i us vs e1 e2
    obtain rfl:=qp hs
    exact qu m e (qq7 e.rep ho h1 h2 e1 e2)
   ·cases hs
  ·cases hc
 ·cases hc
theorem qpl (m:MInv P C ω w0 C0 hp w)(e:EnvRel C ω w w0.heap.size env a.tmps){t:TypeId}{x}(ho:o.op=.makeMap t x)(hc:cOp P h md r dst (.makeMap t x)=some aop)(hs:qb p xc h0 al env hp aop=some res):jz P C C0 w0 a d env o w res:=by
 cases x with
 |some x=>simp[cOp]at hc
 |none=>
  simp only[cOp]at hc
  split at hc
  ·cases hc
   simp only[qb,qj]at hs
   split at hs
   ·rename_i h' hn
    obtain rfl:=qp hs
    exact .inl (qt5 m e ho hn)
   ·cases hs
  ·cases hc
theorem qth (m:MInv P C ω w0 C0 hp w)(e:EnvRel C ω w w0.heap.size env a.tmps){t:TypeId}{x}(ho:o.op=.range t x)(hc:cOp P h md r dst (.range t x)=some aop)(hs:qb p xc h0 al env hp aop=some res):jz P C C0 w0 a d env o w res:=by
 simp only[cOp]at hc
 split at hc
 ·rename_i ht
  obtain⟨y,hy,rfl⟩:=Option.map_eq_some_iff.1 hc
  simp only[qb,qj]at hs
  split at hs
  ·rename_i s hv
   split at hs
   ·rename_i h' hn
    obtain rfl:=qp hs
    exact .inl (qq9 m e ho ht hy hv hn)
   ·cases hs
  ·cases hs
 ·cases hc
theorem qwt (m:MInv P C ω w0 C0 hp w)(e:EnvRel C ω w w0.heap.size env a.tmps){x b}(ho:o.op=.next x b)(hc:cOp P h md r dst (.next x b)=some aop)(hs:qb p xc h0 al env hp aop=some res):jz P C C0 w0 a d env o w res:=by
 cases b with
 |false=>simp[cOp]at hc
 |true=>
  simp only[cOp]at hc
  obtain⟨y,hy,rfl⟩:=Option.map_eq_some_iff.1 hc
  simp only[qb,qj]at hs
  split at hs
  ·rename_i b hv
   cases hk:jf h0 al b with
   |false=>simp[hk]at hs
   |true=>
    simp only[hk,cond_true]at hs
    split at hs
    ·rename_i s pos hb
     obtain⟨k1,k2⟩:=quq (d:=d) m e ho hy hv hb
     cases hp:Nat.blt pos s.length with
     |true=>
      simp only[hp,cond_true]at hs
      split at hs
      ·rename_i h' hset
       obtain rfl:=qp hs
       exact .inl (k1 (Nat.blt_eq.mp hp) h' hset)
      ·cases hs
     |false=>
      simp only[hp,cond_false]at hs
      obtain rfl:=qp hs
      exact .inl (k2 (fun h=>by rw[Nat.blt_eq.mpr h]at hp;cases hp))
    ·cases hs
  ·cases hs
theorem qsw (m:MInv P C ω w0 C0 hp w)(e:EnvRel C ω w w0.heap.size env a.tmps){t:TypeId}{x y ok}(ho:o.op=.lookup t x y ok)(hc:cOp P h md r dst (.lookup t x y ok)=some aop)(hs:qb p xc h0 al env hp aop=some res):jz P C C0 w0 a d env o w res:=by
 simp only[cOp]at hc
 split at hc
 ·rename_i kt el ht
  split at hc
  ·rename_i kd z x' y' hkd hz h1 h2
   cases hc
   simp only[qb,j0]at hs
   split at hs
   ·rename_i b kv e1 e2
    cases hk:jf h0 al b with
    |false=>simp[hk]at hs
    |true=>
     simp only[hk,cond_true]at hs
     split at hs
     ·rename_i es hb
      split at hs
      ·rename_i i v hf
       obtain rfl:=qp hs
       exact qu m e (qgu m e ho ht hkd hz h1 h2 e1 e2 (.inr ⟨b,es,rfl,hb,hf⟩))
      ·rename_i hf
       obtain rfl:=qp hs
       exact qu m e (qgu m e ho ht hkd hz h1 h2 e1 e2 (.inr ⟨b,es,rfl,hb,hf⟩))
      ·cases hs
     ·cases hs
   ·rename_i kv e1 e2
    obtain rfl:=qp hs
    exact qu m e (qgu m e ho ht hkd hz h1 h2 e1 e2 (.inl ⟨rfl,rfl⟩))
   ·cases hs
  ·cases hc
 ·cases hc
theorem qg6 (m:MInv P C ω w0 C0 hp w)(e:EnvRel C ω w w0.heap.size env a.tmps){t:TypeId}{x y z}(ho:o.op=.mapUpdate t x y z∨o.op=.insert t x y z)(hc:cOp P h md r dst (.mapUpdate t x y z)=some aop)(hs:qb p xc h0 al env hp aop=some res):jz P C C0 w0 a d env o w res:=by
 simp only[cOp]at hc
 split at hc
 ·rename_i kt el ht
  split at hc
  ·rename_i kd x' y' z' hkd h1 h2 h3
   cases hc
   simp only[qb,qj]at hs
   split at hs
   ·rename_i b kv v e1 e2 e3
    cases hk:jf h0 al b with
    |false=>simp[hk]at hs
    |true=>
     simp only[hk,cond_true]at hs
     split at hs
     ·rename_i es hb
      split at hs
      ·rename_i i u hf
       split at hs
       ·rename_i h' hset
        obtain rfl:=qp hs
        exact .inr (.inl (qg9 m e ho ht hkd h1 h2 h3 e1 e2 e3 hb (.inl ⟨i,u,hf,hset⟩)))
       ·cases hs
      ·rename_i hf
       cases hl:Nat.ble es.length 1073741824 with
       |false=>simp[hl]at hs
       |true=>
        simp only[hl,cond_true]at hs
        split at hs
        ·rename_i h' hset
         obtain rfl:=qp hs
         exact .inr (.inl (qg9 m e ho ht hkd h1 h2 h3 e1 e2 e3 hb (.inr ⟨hf,hset⟩)))
        ·cases hs
      ·cases hs
     ·cases hs
   ·cases hs
  ·cases hc
 ·cases hc
end
section
variable {P:Program}{p:je}{xc:XC}{C C0:Ctx}{ω:Nat→Option Loc}{w w0:World}{hp:qi}{env:Env}{a:Act}{o:Oper}{d:Loc}{h:qt}{md:CMode}{r h0:Nat}{dst:Option Nat}{al:Option (List Nat)}{aop:AOp}{res:ORes}
theorem yg (w:World){d}{t:TypeId}{x y b}{u:TypeDesc}(h:(∃e,u=.slice e∧y=.slice none 0 0∧∃q l c,x=.slice q l c∧b=q.isNone)∨(∃e,u=.pointer e∧y=.pointer none∧∃q,x=.pointer q∧b=q.isNone) ∨
  (∃k e,u=.map k e∧y=.map none∧∃q,x=.map q∧b=q.isNone)∨(∃k e v,u=.func k e v∧y=.nilFunc∧((x=.nilFunc∧b=true)∨∃f i j,x=.func f i j∧b=false))) (ht:P.underlying t=some u):
  (Op.equalIn (d+1) t x y).run P w=.ok b w:=by
 rcases h with⟨e,rfl,rfl,q,l,c,rfl,rfl⟩|⟨e,rfl,rfl,q,rfl,rfl⟩|⟨k,e,rfl,rfl,q,rfl,rfl⟩|⟨k,e,v,rfl,rfl,⟨rfl,rfl⟩|⟨f,i,j,rfl,rfl⟩⟩
 ·cases q<;>simp[Op.equalIn,run_underlying ht]
 ·cases q<;>simp[Op.equalIn,run_underlying ht]
 ·cases q<;>simp[Op.equalIn,run_underlying ht]
 ·simp[Op.equalIn,run_underlying ht]
 ·simp[Op.equalIn,run_underlying ht]
theorem qa7 (m:MInv P C ω w0 C0 hp w)(e:EnvRel C ω w w0.heap.size env a.tmps){op}{t u:TypeId}{x y neq b c}(ho:o.op=.binOp op t x y u)(hop:op=if neq then .neq else .eql)(hy:a.eval y=c)
  (hne:(∀k n,a.eval x≠.int k n)∧(∀s,a.eval x≠.string s)∧(∀k n,a.eval x≠.float k n)∧(∀k n m,a.eval x≠.complex k n m)) (hag:∀cs,a.eval x≠.agg cs) (hif:a.eval x≠.nilIface)
  (hq:(Op.equal t (a.eval x) c).run P w=.ok b w) {z} (hz:z=bif neq then !b else b):jz P C C0 w0 a d env o w ⟨.bool z,false,none,hp⟩:=by
 subst hz
 exact qu m e (qub ho hop hy hne hag hif hq)
theorem qe8 (m:MInv P C ω w0 C0 hp w)(e:EnvRel C ω w w0.heap.size env a.tmps){op}{t u:TypeId}{x y y' neq k c}(ho:o.op=.binOp op t x y u)(hop:op=if neq then .neq else .eql)(hx:ql x=some y')(hy:y=.const c)
  (hk:(k=0∧(∃el,P.underlying t=some (.slice el))∧c=.slice none 0 0)∨(k=1∧(∃el,P.underlying t=some (.pointer el))∧c=.pointer none)∨(k=2∧(∃k v,P.underlying t=some (.map k v))∧c=.map none)∨(k=3∧(∃a b c,P.underlying t=some (.func a b c))∧c=.nilFunc))
  (hs:qb p xc h0 al env hp (.nilEq k neq y')=some res):jz P C C0 w0 a d env o w res:=by
 have hyv:a.eval y=c:=by subst hy;simp[Act.eval]
 rcases hk with⟨rfl,⟨el,ht⟩,rfl⟩|⟨rfl,⟨el,ht⟩,rfl⟩|⟨rfl,⟨k,el,ht⟩,rfl⟩|⟨rfl,⟨k,el,q,ht⟩,rfl⟩
 ·simp only[qb,qg]at hs
  split at hs<;>first|(exfalso;omega)|skip
  ·rename_i n sz xs _ hv
   obtain rfl:=qp hs
   rcases(qn e.rep hx hv).list_inv with⟨rfl,rfl,h1⟩|⟨h1,r,q,cap,h2,_⟩|⟨h1,_,ad,_,h2⟩
   ·exact qa7 m e ho hop hyv (by simp[h1]) (by simp[h1]) (by simp[h1]) (b:=true) (by rw[h1];exact yg w (d:=9999) (by simp) ht) (by cases neq<;>rfl)
   all_goals
    subst h1
    exact qa7 m e ho hop hyv (by simp[h2]) (by simp[h2]) (by simp[h2]) (b:=false) (by rw[h2];exact yg w (d:=9999) (by simp) ht) (by cases neq<;>rfl)
  ·rename_i b q n _ hv
   obtain rfl:=qp hs
   have hr:=qn e.rep hx hv
   generalize h2:a.eval x=ev at hr
   cases hr with
   |ms b o len r cap hb hl=>
    exact qa7 m e ho hop hyv (by simp[h2]) (by simp[h2]) (by simp[h2]) (b:=false) (by rw[h2];exact yg w (d:=9999) (by simp) ht) (by cases neq<;>rfl)
  ·cases hs
 ·simp only[qb,qg]at hs
  split at hs<;>first|(exfalso;omega)|skip
  ·rename_i _ hv
   obtain rfl:=qp hs
   have hr:=qn e.rep hx hv
   generalize h2:a.eval x=ev at hr
   cases hr
   exact qa7 m e ho hop hyv (by simp[h2]) (by simp[h2]) (by simp[h2]) (b:=true) (by rw[h2];exact yg w (d:=9999) (by simp) ht) (by cases neq<;>rfl)
  ·rename_i _ hv
   obtain rfl:=qp hs
   obtain⟨r,hr,h2⟩:=(qn e.rep hx hv).ptr_inv
   exact qa7 m e ho hop hyv (by simp[h2]) (by simp[h2]) (by simp[h2]) (b:=false) (by rw[h2];exact yg w (d:=9999) (by simp) ht) (by cases neq<;>rfl)
  ·rename_i _ hv
   obtain rfl:=qp hs
   obtain⟨r,q,h2,_⟩:=(qn e.rep hx hv).vptr_inv
   exact qa7 m e ho hop hyv (by simp[h2]) (by simp[h2]) (by simp[h2]) (b:=false) (by rw[h2];exact yg w (d:=9999) (by simp) ht) (by cases neq<;>rfl)
  ·cases hs
 ·simp only[qb,qg]at hs
  split at hs<;>first|(exfalso;omega)|skip
  ·rename_i _ hv
   obtain rfl:=qp hs
   have hr:=qn e.rep hx hv
   generalize h2:a.eval x=ev at hr
   cases hr
   exact qa7 m e ho hop hyv (by simp[h2]) (by simp[h2]) (by simp[h2]) (b:=true) (by rw[h2];exact yg w (d:=9999) (by simp) ht) (by cases neq<;>rfl)
  ·rename_i _ hv
   obtain rfl:=qp hs
   have hr:=qn e.rep hx hv
   generalize h2:a.eval x=ev at hr
   cases hr
   exact qa7 m e ho hop hyv (by simp[h2]) (by simp[h2]) (by simp[h2]) (b:=false) (by rw[h2];exact yg w (d:=9999) (by simp) ht) (by cases neq<;>rfl)
  ·cases hs
 ·simp only[qb,qg]at hs
  split at hs<;>first|(exfalso;omega)|skip
  ·rename_i _ hv
   obtain rfl:=qp hs
   have hr:=qn e.rep hx hv
   generalize h2:a.eval x=ev at hr
   cases hr
   exact qa7 m e ho hop hyv (by simp[h2]) (by simp[h2]) (by simp[h2]) (b:=true) (by rw[h2];exact yg w (d:=9999) (by simp) ht) (by cases neq<;>rfl)
  ·rename_i _ hv
   obtain rfl:=qp hs
   have hr:=qn e.rep hx hv
   generalize h2:a.eval x=ev at hr
   cases hr
   exact qa7 m e ho hop hyv (by simp[h2]) (by simp[h2]) (by simp[h2]) (b:=false) (by rw[h2];exact yg w (d:=9999) (by simp) ht) (by cases neq<;>rfl)
  ·cases hs
theorem qfp (m:MInv P C ω w0 C0 hp w)(e:EnvRel C ω w w0.heap.size env a.tmps){op}{t u:TypeId}{x y x' y'}(ho:o.op=.binOp op t x y u)(h1:ql x=some x')(h2:ql y=some y')(hs:qb p xc h0 al env hp (.bin op x' y')=some res):jz P C C0 w0 a d env o w res:=by
 simp only[qb,qg]at hs
 split at hs
 ·rename_i u v e1 e2
  obtain⟨z,hz,rfl⟩:=qad hs
  exact qu m e (qxm e.rep ho h1 h2 e1 e2 hz)
 ·cases hs
theorem qk0 (m:MInv P C ω w0 C0 hp w)(e:EnvRel C ω w w0.heap.size env a.tmps){op}{t u:TypeId}{x y neq}(ho:o.op=.binOp op t x y u)(hop:op=if neq then .neq else .eql)(hc:cEq P op neq t x y=some aop)(hs:qb p xc h0 al env hp aop=some res):jz P C C0 w0 a d env o w res:=by
 have hc':cEq P op neq t x y=some aop:=hc
 unfold cEq at hc'
 have eqs:∀ {ks:List Kd} {x' y':qz},zb P t=some true→P.eqGuardType P.depth t=false→qbr P qeg t=some ks→ql x=some x'→ql y=some y'→qb p xc h0 al env hp (.eqs ks neq x' y')=some res→jz P C C0 w0 a d env o w res:=by
  intro ks x' y' hag hg hk h1 h2 hs
  simp only[qb,qg]at hs
  split at hs
  ·rename_i u v e1 e2
   cases hb:(Nat.beq u.length ks.length&&Nat.beq v.length ks.length)with
   |false=>simp[hb]at hs
   |true=>
    simp only[hb,cond_true]at hs
    simp only[Bool.and_eq_true]at hb
    split at hs
    ·rename_i b hq
     obtain rfl:=qp hs
     exact qu m e (qxx e.rep ho hop h1 h2 e1 e2 hg hk hag (Nat.eq_of_beq_eq_true hb.1) (Nat.eq_of_beq_eq_true hb.2) hq)
    ·cases hs
  ·cases hs
 split at hc'
 ·split at hc'
  ·rename_i h1 h2;cases hc';exact qfp m e ho h1 h2 hs
  ·cases hc'
 ·split at hc'
  ·rename_i h1 h2;cases hc';exact qfp m e ho h1 h2 hs
  ·cases hc'
 ·rename_i ht
  split at hc'
  ·rename_i h1 h2
   cases hc'
   simp only[qb,qg]at hs
   split at hs
   ·rename_i u v e1 e2
    obtain rfl:=qp hs
    exact qu m e (qx6 e.rep ho hop h1 h2 e1 e2 ht)
   ·cases hs
  ·cases hc'
 ·rename_i fs ht
  split at hc'
  ·rename_i hg
   split at hc'
   ·rename_i ks x' y' hk h1 h2;cases hc';exact eqs (by simp[zb,ht]) (by simpa using hg) hk h1 h2 hs
   ·cases hc'
  ·cases hc'
 ·rename_i fs _ ht
  split at hc'
  ·rename_i hg
   split at hc'
   ·rename_i ks x' y' hk h1 h2;cases hc';exact eqs (by simp[zb,ht]) (by simpa using hg) hk h1 h2 hs
   ·cases hc'
  ·cases hc'
 ·rename_i el ht
  split at hc'
  ·obtain⟨x',hx,rfl⟩:=Option.map_eq_some_iff.1 hc'
   exact qe8 m e ho hop hx rfl (.inl ⟨rfl,⟨el,ht⟩,rfl⟩) hs
  ·cases hc'
 ·rename_i el ht
  split at hc'
  ·obtain⟨x',hx,rfl⟩:=Option.map_eq_some_iff.1 hc'
   exact qe8 m e ho hop hx rfl (.inr (.inl ⟨rfl,⟨el,ht⟩,rfl⟩)) hs
  ·cases hc'
 ·rename_i el _ ht
  split at hc'
  ·obtain⟨x',hx,rfl⟩:=Option.map_eq_some_iff.1 hc'
   exact qe8 m e ho hop hx rfl (.inr (.inr (.inl ⟨rfl,⟨_,_,ht⟩,rfl⟩))) hs
  ·cases hc'
 ·rename_i el _ _ ht
  split at hc'
  ·obtain⟨x',hx,rfl⟩:=Option.map_eq_some_iff.1 hc'
   exact qe8 m e ho hop hx rfl (.inr (.inr (.inr ⟨rfl,⟨_,_,_,ht⟩,rfl⟩))) hs
  ·cases hc'
 ·cases hc'
theorem qyi (m:MInv P C ω w0 C0 hp w)(e:EnvRel C ω w w0.heap.size env a.tmps){op}{t u:TypeId}{x y}(ho:o.op=.binOp op t x y u)(hc:cOp P h md r dst (.binOp op t x y u)=some aop)(hs:qb p xc h0 al env hp aop=some res):jz P C C0 w0 a d env o w res:=by
 simp only[cOp]at hc
 unfold qvd at hc
 split at hc
 ·exact qk0 (neq:=false) m e ho rfl hc hs
 ·exact qk0 (neq:=true) m e ho rfl hc hs
 ·split at hc
  ·rename_i h1 h2;cases hc;exact qfp m e ho h1 h2 hs
  ·cases hc
end
end Go.Abs
