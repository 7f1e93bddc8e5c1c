/- Operations that make a new slice. -/
import Derived.Test.YtfopaakmgogpiaaGreatDoorAbsB
set_option linter.unusedVariables false
set_option linter.unusedSimpArgs false
open Option renaming some→I,none→En,isSome_iff_exists→Hl
open Bool renaming true→Eh,false→Eu,false_eq_true→Hu,and_eq_true→N3
open List renaming replicate→Ek,getElem?_append_right→Ep,getElem?_append_left→Ev,replicate_succ→Ge,getElem?_eq_some_iff→Gy,getElem?_eq_getElem→G3,getElem?_take_of_lt→G5,mem_replicate→G6,flatten_cons→Ha,append_assoc→Hb,getElem?_set_self→Hc,getElem?_toArray→Hd,mem_of_getElem?→Hf,getElem?_of_mem→Hg,getElem?_set_ne→Hj,mem_append→Hk,mem_map→Hm,length_set→Hn,getElem?_eq_none→Ho,length_append→Hv,getElem?_drop→Hw,getElem?_map→If,flatMap_cons→N2,all_eq_true→N5,mem_flatten→N7,length_map→Ob,mem_cons→Ou,take→Ov,map_cons→O9
open Nat renaming eq_of_beq_eq_true→Ga,le_refl→Gc,beq→G9,add_mul→Hq,le_of_ble_eq_true→Hr,mul_le_mul_right→Ht,le_trans→Hx,mul_eq_zero→Oa,mul_le_mul→Oh
open Array renaming getD_eq_getD_getElem?→Gb,getElem?_toList→Gw,getElem?_eq_some_iff→Gx,range→G2,ext'→Od
namespace Go.Abs
section
variable {P:Program}{C C0:aA}{ω:Nat→Option Loc}{w w0:World}{hp:za}{env:Env}{a:Act}{o:Oper}{tmps:Array Value}{d:Loc}
theorem ak.strip {B}(e:ak C ω w B env tmps)(s:Option Nat):ak C ω w B (gq env s) tmps:=by
 cases s with
 |none=>exact e
 |some s=>
  simp only[gq]
  split
  ·rename_i v o hl
   intro t x hx
   simp only[yd]at hx
   cases hb:G9 s t with
   |false=>rw[hb]at hx;simp at hx;exact e t x hx
   |true=>
    rw[hb]at hx
    simp at hx
    subst hx
    obtain rfl:=Ga hb
    obtain⟨u,h1,h2,_⟩:=e s _ hl
    exact⟨u,h1,h2,by simp⟩
  ·exact e
theorem q4e (m:av P C ω w0 C0 hp w)(e:ak C ω w w0.heap.size env tmps){x v}(h:bG C x v):km P C0 w0 C tmps d env ⟨x,Eu,En,hp⟩ v w:=
 ⟨C,ω,aA.le_refl C,m,e,h,by simp⟩
theorem NP (m:av P C ω w0 C0 hp w)(e:ak C ω w w0.heap.size env tmps)(cells:Array Value)(t:TypeId)(xs:List qa)(sz cap:Nat)(vs:List Value)(hr:aK C (xs.flatMap qa.flat) vs)
  (hv:∀(j:Nat) v,vs[j]?=I v→cells[j]?=I v) (h1:∀v∈vs,v.oneCell'=Eh) (hs:∀x∈xs,x.flat.length=sz) (hcap:xs.length≤cap) (cf:cap*sz≤cells.size) (s:Option Nat):
  km P C0 w0 C tmps d env ⟨.list Eu sz xs,Eh,s,hp⟩ (.slice (I ⟨w.heap.size,0,En⟩) xs.length cap) (w.alloc (.cells cells t)):=by
 have hn:∀o,C.K w.heap.size o=En:=m.jK _ (Gc _)
 have hx:Ext w (w.alloc (.cells cells t)):=Ext.alloc w _ (fun c t fr h=>by cases h;rfl)
 have m1:=(m.newRow cells t vs hv h1)
 have T8:∀ℓ x v,aB C ω w w0.heap.size ℓ x v→aB (C.put w.heap.size 0 vs) (cr ω w.heap.size d) (w.alloc (.cells cells t)) w0.heap.size ℓ x v:=fun ℓ x v ho=>((ho.fresh (Gc _)).put vs (.inl (Gc _))).ext hx
 have hle:=aA.fY (C:=C) (off:=0) vs (fun o _=>hn o)
 have hcells:=aA.eJ (C:=C) (off:=0) (fun o _=>hn o) hr
 have hl:vs.length=xs.length*sz:=by rw[hr.length,lB xs hs]
 refine⟨C.put w.heap.size 0 vs,cr ω w.heap.size d,hle,?_,?_,?_,?_⟩
 ·exact { m1 with box:=fun b x r eK hb=>((m.box b x r eK hb).mono hle fun j y v ho=>(ho.fresh (Gc _)).put vs (.inl (Gc _))).ext hx }
 ·refine ak.strip ?_ s
  exact fun t x hx=>let ⟨v,h1,h2,h3⟩:=e t x hx; ⟨v,h1,qh.mono hle h2,fun h=>T8 _ _ _ (h3 h)⟩
 ·exact .list _ _ _ _ _ hcap (bg.eo hcells hs)
 ·intro _
  refine⟨by simp[cr],.inl m.size,?_,rfl,rfl,⟨cells,t,by rw[vQ,if_pos rfl],by simpa using cf,ep.sized hs⟩,?_⟩
  ·intro b hb
   have:=(m.lt b _ hb).1
   simp at this
  ·intro o ho
   simp only[aA.put]
   rw[if_neg (by simp at ho;omega)]
   exact hn o
theorem NQ {zs:List Value}{sz}(hz:zs.length=sz)(hs:0<sz):∀(n:Nat),(List.range (n*sz)).map (fun i=>zs.toArray[i % zs.toArray.size]!)=(Ek n zs).flatten
 |0=>by simp
 |n+1=>by
  rw[Nat.succ_mul,List.range_add,List.map_append,NQ hz hs n,List.replicate_succ',List.flatten_append]
  congr 1
  simp only[List.map_map,Ha,List.flatten_nil,List.append_nil]
  apply List.ext_getElem?
  intro j
  rw[If]
  by_cases hj:j<sz
  ·rw[List.getElem?_range hj]
   simp only[Option.map_some,Function.comp,List.size_toArray,hz]
   rw[Nat.mul_add_mod_self_right,Nat.mod_eq_of_lt hj]
   rw[G3 (by omega),getElem!_pos _ _ (by simpa[hz]using hj)]
   simp
  ·rw[Ho (by simpa using hj),Ho (by omega)]
   rfl
theorem aK.replicate {zs vs}(h:aK C zs vs):∀n:Nat,aK C (Ek n zs).flatten (Ek n vs).flatten
 |0=>.nil
 |n+1=>by
  rw[Ge,Ge,Ha,Ha]
  exact aK.append h (aK.replicate h n)
def uK (sz:Nat)(zero:List qa):qa:=bif G9 sz 1 then zero.headD .undef else .agg zero
theorem T9 {sz zero}(hz:zero.length=sz)(hs:∀z∈zero,z.isAgg=Eu):(uK sz zero).flat=zero:=by
 unfold uK
 cases hb:G9 sz 1 with
 |false=>rfl
 |true=>
  obtain rfl:=Ga hb
  obtain⟨z,rfl⟩:=List.length_eq_one_iff.1 hz
  exact qcb (hs z (by simp))
theorem qnx {sz zero}(hz:zero.length=sz)(hs:∀z∈zero,z.isAgg=Eu)(n:Nat):(Ek n (uK sz zero)).flatMap qa.flat=(Ek n zero).flatten:=by
 induction n with
 |zero=>rfl
 |succ n ih=>rw[Ge,N2,T9 hz hs,ih,Ge,Ha]
theorem q12 {v x}(h:Ed v=I x):zd x=Eh∧v.oneCell'=Eh:=by
 unfold Ed at h
 split at h<;>first|cases h|skip
 all_goals exact⟨rfl,rfl⟩
theorem qo9:∀ {vs:List Value} {xs:List qa},vP vs=I xs→(∀x∈xs,zd x=Eh)∧∀v∈vs,v.oneCell'=Eh
 | [],xs,h=>by simp[vP]at h;subst h;simp
 |v::vs,xs,h=>by
  simp only[vP]at h
  split at h
  ·rename_i x hx
   split at h
   ·rename_i ys mQ
    cases h
    obtain⟨h1,h2⟩:=q12 hx
    obtain⟨h3,h4⟩:=qo9 mQ
    exact⟨by simpa using⟨h1,h3⟩,by simpa using⟨h2,h4⟩⟩
   ·cases h
  ·cases h
theorem qpb {x}(h:zd x=Eh):x.isAgg=Eu:=by cases x<;>simp[zd,qa.isAgg]at *
theorem uL {t:TypeId}{z}(h:ei P t=I z):(∀x∈z,zd x=Eh)∧∃v,(∀w,(zeroValue t).run P w=.ok v w)∧aK C z v.cells.toList∧∀u∈v.cells.toList,u.oneCell'=Eh:=by
 unfold ei at h
 split at h
 ·rename_i i hi
  split at h
  ·rename_i v hv
   obtain⟨h1,h2⟩:=qo9 h
   exact⟨h1,v,fun w=>by simp[zeroValue,typeInfo,hi,hv],NF C h,h2⟩
  ·cases h
 ·cases h
theorem Ua {x v}(h:bG C x v)(hs:zd x=Eh):v.oneCell'=Eh:=by
 cases h<;>first|rfl|(simp[zd]at hs)
theorem Ak {xs}:∀ {vs:List Value},aK C xs vs→(∀x∈xs,zd x=Eh)→∀v∈vs,v.oneCell'=Eh:=by
 induction xs with
 |nil=>intro vs h _ v hv;cases h;cases hv
 |cons x xs ih=>
  intro vs h hs v hv
  cases h with
  |cons _ _ u us hx h=>
   rcases Ou.1 hv with rfl|hv
   ·exact Ua hx (hs x (by simp))
   ·exact ih h (fun y hy=>hs y (by simp[hy])) v hv
theorem q07:∀ (qs:List (Nat×List qa)) (xs ys:List qa),jJ xs qs=I ys→(∀x∈xs,zd x=Eh)→(∀q∈qs,∀x∈q.2,zd x=Eh)→∀y∈ys,zd y=Eh
 | [],xs,ys,h,hx,_=>by simp[jJ]at h;subst h;exact hx
 |(off,vs)::qs,xs,ys,h,hx,hq=>by
  simp only[jJ]at h
  cases hb:Nat.ble (off+vs.length) xs.length with
  |false=>simp[hb]at h
  |true=>
   simp only[hb,cT]at h
   refine q07 qs _ ys h ?_ (fun q h=>hq q (by simp[h]))
   intro x h
   simp only[Hk]at h
   rcases h with(h|h)|h
   ·exact hx x (List.mem_of_mem_take h)
   ·exact hq (off,vs) (by simp) x h
   ·exact hx x (List.mem_of_mem_drop h)
theorem qla {sz}:∀(ps:List (Nat×qp)) (qs:List (Nat×qa)),iG env sz ps=I qs→∀q∈qs,∀x∈q.2.flat,zd x=Eh
 | [],qs,h=>by simp[iG]at h;subst h;simp
 |(i,x)::ps,qs,h=>by
  simp only[iG]at h
  split at h
  ·rename_i v nO
   cases hb:(G9 v.flat.length sz&&v.flat.all zd)with
   |false=>simp[hb]at h
   |true=>
    simp only[hb,cT]at h
    simp only[N3,N5]at hb
    split at h
    ·rename_i r hr
     cases h
     intro q hq
     rcases Ou.1 hq with rfl|hq
     ·exact hb.2
     ·exact qla ps r hr q hq
    ·cases h
  ·cases h
theorem qor (e:ak C ω w w0.heap.size env a.tmps){t el:TypeId}{ps len sz z fB qs xs}
  (ho:o.op=.buildSlice t len ps) (ht:P.underlying t=I (.slice el)) (hn:yf P el=I sz) (hz:ei P el=I z) (hlen:sz*len≤65536) (h0:0<sz) (gL:z.length=sz)
  (l8:xr ps.toList=I fB) (hq:iG env sz fB=I qs) (hx:lq (Ek len (uK sz z)) qs=I xs):
  ∃ds,(execOp a.eval o).run P w=.ok (.value (.slice (I ⟨w.heap.size,0,En⟩) len len)) (w.alloc (.cells ds el))∧aK C (xs.flatMap qa.flat) ds.toList∧(∀v∈ds.toList,v.oneCell'=Eh)∧(∀x∈xs,x.flat.length=sz)∧xs.length=len∧len*sz≤ds.size:=by
 obtain⟨qB,zv,lb,cu,lz⟩:=uL (C:=C) hz
 have xB:∀x∈z,x.isAgg=Eu:=fun x h=>qpb (qB x h)
 have mS:zv.cells.toList.length=sz:=by rw[cu.length,gL]
 have jM:((G2 (len*sz)).map (fun i=>zv.cells[i % zv.cells.size]!)).toList=(Ek len zv.cells.toList).flatten:=by
  have:=NQ mS h0 len
  simpa using this
 obtain⟨qE,hqs⟩:=qq7 e.bU ps.toList fB qs l8 hq
 obtain⟨hf,po,mR⟩:=qxp (sz:=sz) qs _ xs hx (by
  intro x h
  obtain⟨_,rfl⟩:=G6.1 h
  rw[T9 gL xB,gL]) hqs
 rw[qnx gL xB]at hf
 obtain⟨ds,hd,hdr⟩:=NN _ _ _ _ ((G2 (len*sz)).map (fun i=>zv.cells[i % zv.cells.size]!)) (by rw[jM];exact cu.replicate len) hf qE
 have jN:xs.length=len:=by simpa using mR
 have hsc:∀y∈xs.flatMap qa.flat,zd y=Eh:=q07 _ _ _ hf (by
  intro x h
  rw[N7]at h
  obtain⟨l,h1,h2⟩:=h
  obtain⟨_,rfl⟩:=G6.1 h1
  exact qB x h2) (by
  intro q hq1 x Eo
  obtain⟨p,jO,rfl⟩:=Hm.1 hq1
  exact qla fB qs hq p jO x Eo)
 have Al:ds.toList.length=len*sz:=by rw[hdr.length,lB xs po,jN]
 refine⟨ds,?_,hdr,Ak hdr hsc,po,jN,by simp at Al;omega⟩
 ·have uJ:(ps.map fun(x:Nat×Operand)=>(x.1,a.eval x.2)).toList=ps.toList.map fun x=>(x.1,a.eval x.2):=by simp
  have hle:¬(16777216<len*sz):=by rw[Nat.mul_comm];omega
  by_cases Gf:len=0
  ·subst Gf
   have hr:G2 0=#[]:=rfl
   rw[Nat.zero_mul,hr,Array.map_empty]at hd
   simp only[execOp,ho,Instr.buildSlice,Sem.run_bind,run_underlying ht,Result.andThen_ok,iX hn,uJ]
   simp[hr,hd,newRow]
  ·have bu:¬(len*sz=0):=by
    intro h
    rcases Oa.1 h with h|h<;>omega
   simp only[execOp,ho,Instr.buildSlice,Sem.run_bind,run_underlying ht,Result.andThen_ok,iX hn,uJ]
   simp[hle,bu,lb,hd,newRow]
theorem qzm (m:av P C ω w0 C0 hp w)(e:ak C ω w w0.heap.size env a.tmps){t el:TypeId}{ps len sz z fB qs xs}
  (ho:o.op=.buildSlice t len ps) (ht:P.underlying t=I (.slice el)) (hn:yf P el=I sz) (hz:ei P el=I z) (hlen:sz*len≤65536) (h0:0<sz) (gL:z.length=sz)
  (l8:xr ps.toList=I fB) (hq:iG env sz fB=I qs) (hx:lq (Ek len (uK sz z)) qs=I xs):
  ∃v w',(execOp a.eval o).run P w=.ok (.value v) w'∧km P C0 w0 C a.tmps d env ⟨.list Eu sz xs,Eh,En,hp⟩ v w':=by
 obtain⟨ds,bq,hdr,h1,po,jN,cf⟩:=qor (C:=C) (ω:=ω) (w:=w) (w0:=w0) e ho ht hn hz hlen h0 gL l8 hq hx
 refine⟨_,_,bq,?_⟩
 have ew:=NP (d:=d) (tmps:=a.tmps) m e ds el xs sz len ds.toList hdr (by intro j v h;simpa using h) h1 po (by omega) cf En
 rw[jN]at ew
 exact ew
theorem q61 (m:av P C ω w0 C0 hp w)(e:ak C ω w w0.heap.size env a.tmps){t el:TypeId}{x y:Operand}{x' y':qp}{n sz b:Nat}{z}
  (ho:o.op=.makeSlice t x y) (ht:P.underlying t=I (.slice el)) (hn:yf P el=I sz) (hb:nJ P el=I b) (hz:ei P el=I z) (h0:0<sz) (gL:z.length=sz)
  (h1:zp x=I x') (h2:zp y=I y') (e1:zc env x'=I (.int .i64 (n:Int))) (e2:zc env y'=I (.int .i64 (n:Int))) (hle:n≤1073741824) (iY:b≤4096):
  ∃v w',(execOp a.eval o).run P w=.ok (.value v) w'∧km P C0 w0 C a.tmps d env ⟨.list Eu sz (Ek n (uK sz z)),Eh,En,hp⟩ v w':=by
 obtain⟨qB,zv,lb,cu,lz⟩:=uL (C:=C) hz
 have xB:∀x∈z,x.isAgg=Eu:=fun x h=>qpb (qB x h)
 have mS:zv.cells.toList.length=sz:=by rw[cu.length,gL]
 have jM:((G2 (n*sz)).map (fun i=>zv.cells[i % zv.cells.size]!)).toList=(Ek n zv.cells.toList).flatten:=by
  have:=NQ mS h0 n
  simpa using this
 have r1:=(zq e.bU h1 e1).bJ
 have r2:=(zq e.bU h2 e2).bJ
 have po:∀x∈Ek n (uK sz z),x.flat.length=sz:=by
  intro x h
  obtain⟨_,rfl⟩:=G6.1 h
  rw[T9 gL xB,gL]
 have fJ:aK C ((Ek n (uK sz z)).flatMap qa.flat) ((G2 (n*sz)).map (fun i=>zv.cells[i % zv.cells.size]!)).toList:=by
  rw[qnx gL xB,jM];exact cu.replicate n
 obtain⟨i,hi,qF⟩:∃i,P.info? el=I i∧i.bytes=b:=by
  unfold nJ at hb
  cases hi:P.info? el with
  |none=>simp[hi]at hb
  |some i=>exact⟨i,rfl,by simpa[hi]using hb⟩
 have kC:i.size=sz:=by
  unfold yf at hn
  rw[hi]at hn
  simpa using hn
 have qG:IntKind.i64.wrap (n:Int)=n:=by
  rw[←Ag];unfold j6
  have:pW .i64 (n:Int)=Eh:=by simp[pW];exact Hx hle (by decide)
  rw[this];rfl
 have Ae:b*n≤281474976710656:=Hx (Oh iY hle) (by decide)
 have ew:=NP (d:=d) (tmps:=a.tmps) m e ((G2 (n*sz)).map (fun i=>zv.cells[i % zv.cells.size]!)) el (Ek n (uK sz z)) sz n _ fJ (by intro j v h;rw[Gw]at h;exact h) (by
   rw[jM]
   intro v hv
   rw[N7]at hv
   obtain⟨l,q1,q2⟩:=hv
   obtain⟨_,rfl⟩:=G6.1 q1
   exact lz v q2) po (by simp) (by simp) En
 rw[List.length_replicate]at ew
 refine⟨_,_,?_,ew⟩
 have c1:¬((b:Int)*(n:Int) > 2^48):=by
  have h1:((b*n:Nat):Int)≤281474976710656:=Int.ofNat_le.2 Ae
  rw[Int.natCast_mul]at h1
  have h2:(2:Int)^48=281474976710656:=by decide
  rw[h2];omega
 have c2:¬((n:Int)<0):=by omega
 have hr:G2 0=#[]:=rfl
 simp only[execOp,ho,Instr.makeSlice,Sem.run_bind,run_underlying ht,r1,r2,asInt,asIntOf,Sem.run_pure,Result.andThen_ok,typeInfo,run_program,hi,qF,qG,c2,c1,decide_false,Bool.or_false,Hu,if_false,Int.lt_irrefl,gt_iff_lt,run_askRoom,Int.toNat_natCast,iX hn,newRow]
 by_cases Ah:n=0
 ·subst Ah
  simp[hr]
 ·have bu:¬(n*sz=0):=by
   intro h
   rcases Oa.1 h with h|h<;>omega
  simp[bu,lb]
end
structure jn (w w':World)(r:Nat)(cs:Array Value):Prop where
 at_:∃t,w'.heap[r]?=I (.cells cs t (0,0))
 size:w'.heap.size=w.heap.size
 other:∀k,k≠r→w'.heap[k]?=w.heap[k]?
 os:w'.os=w.os
 output:w'.output=w.output
theorem Gg {w r old}{t:TypeId}(h:w.heap[r]?=I (.cells old t (0,0)))(cs:Array Value):jn w (w.setRow r cs) r cs:=
 ⟨⟨t,setRow_heap w r old cs t (0,0) h⟩,setRow_size w r cs,fun k hk=>setRow_other w r k cs hk,rfl,rfl⟩
section
variable {P:Program}{C C0:aA}{ω:Nat→Option Loc}{w w' w0:World}{hp:za}{env:Env}{a:Act}{o:Oper}{tmps:Array Value}{d:Loc}
theorem aB.ib {B r cs ℓ x v}(hu:jn w w' r cs)(hr:ω r≠I ℓ)(ho:aB C ω w B ℓ x v):aB C ω w' B ℓ x v:=by
 unfold aB at *
 split at ho
 ·rename_i a len cap
  obtain⟨h1,h2,h3,h4,h8,⟨cells,elem,h5,h6⟩,h7⟩:=ho
  refine⟨h1,h2,h3,h4,h8,⟨cells,elem,?_,h6⟩,h7⟩
  rw[hu.other _ (fun h=>hr (h▸h1))]
  exact h5
 ·rename_i a
  obtain⟨h1,h2,h3,h4,h8,⟨cells,elem,h5,h6⟩,h7⟩:=ho
  refine⟨h1,h2,h3,h4,h8,⟨cells,elem,?_,h6⟩,h7⟩
  rw[hu.other _ (fun h=>hr (h▸h1))]
  exact h5
 ·trivial
theorem bp.ib {B b r r' cs x}(hu:jn w w' r cs)(bu:r'≠r)(hr:∀j,ω r≠I (.cell b j))(hb:bp P C ω w B b r' x):bp P C ω w' B b r' x:=by
 have hg:=hu.other r' bu
 cases x with
 |hole=>exact hb
 |cells dV=>
  obtain⟨vs,elem,h1,h2,h3⟩:=hb
  exact⟨vs,elem,by rw[hg];exact h1,h2,fun j c hc=>let ⟨v,a,q,b,d⟩:=h3 j c hc; ⟨v,a,q,b,fun e=>(d e).ib hu (hr j)⟩⟩
 |map es=>obtain⟨bQ,clock,h1,h2⟩:=hb;exact⟨bQ,clock,by rw[hg];exact h1,h2⟩
 |iter s pos=>show w'.heap[r']?=_;rw[hg];exact hb
 |loop l=>obtain⟨lp,h1,h2⟩:=hb;exact⟨lp,by rw[hg];exact h1,h2⟩
 |fE t e l=>obtain⟨p,v,h1,h2,h3,h4⟩:=hb;exact⟨p,v,by rw[hg];exact h1,h2,h3,h4.ib hu (hr 1)⟩
 |dead=>obtain⟨cs,t,h1⟩:=hb;exact⟨cs,t,by rw[hg];exact h1⟩
 |vec sz bz xs=>exact dG.imp (fun _ _ _ h=>h) (fun _ h=>h) (fun _ h _=>h) hg (fun q n cap k=>⟨hu.other q (fun hq=>hr 0 (hq▸k.1)),k.ib hu (hr 0)⟩) hb
theorem qym (m:av P C ω w0 C0 hp w)(e:ak C ω w w0.heap.size env tmps){r q cells}{t:TypeId}{news s}(hω:ω r=I (.slot s))(hB:w0.heap.size≤r∨C.W r)(hβ:∀b,C.β b≠I r)
  (hg:w.heap[r]?=I (.cells cells t (0,0))) (cf:q+news.length≤cells.size) (hK:∀o,q≤o→C.K r o=En) (h1:∀v∈news,v.oneCell'=Eh):
  av P (C.put r q news) (cr ω r d) w0 C0 hp (w.setRow r (cells.toList.take q++news++cells.toList.drop (q+news.length)).toArray) ∧
  ak (C.put r q news) (cr ω r d) (w.setRow r (cells.toList.take q++news++cells.toList.drop (q+news.length)).toArray) w0.heap.size (gq env (I s)) tmps∧C.le (C.put r q news):=by
 have hu:=Gg hg (cells.toList.take q++news++cells.toList.drop (q+news.length)).toArray
 generalize Ub:w.setRow r (cells.toList.take q++news++cells.toList.drop (q+news.length)).toArray=w' at hu
 have hle:=aA.fY (C:=C) (off:=q) news hK
 have cA:∀ℓ x v,ℓ≠.slot s→aB C ω w w0.heap.size ℓ x v→aB (C.put r q news) (cr ω r d) w' w0.heap.size ℓ x v:=by
  intro ℓ x v hℓ ho
  have bu:ω r≠I ℓ:=by rw[hω];intro h;exact hℓ (I.inj h).symm
  have h2:aB (C.put r q news) ω w' w0.heap.size ℓ x v:=(ho.put news (.inr bu)).ib hu bu
  exact h2.other (.inl bu)
 refine⟨?_,?_,hle⟩
 ·have Gh:=hu.size
  refine { base:=m.base,know:=?_,cP:=?_,apart:=?_,inj:=m.inj,lt:=?_,size:=?_,frame:=?_,eQ:=?_,os:=hu.os.trans m.os,output:=hu.output.trans m.output,fresh:=m.fresh,grown:=aA.le_trans m.grown hle,old:=?_,box:=?_,gW:=fun q hq=>by rw[hu.size];exact m.gW q hq }
  ·intro b p v hk
   simp only[aA.put]at hk
   split at hk
   ·rename_i hc
    obtain⟨rfl,h2,h3⟩:=hc
    obtain⟨t',Gi⟩:=hu.at_
    simp only[World.cell?,Gi]
    rw[Hd,Hb,Ep (by simp;omega),Ev (by simp;omega)]
    have:(Ov q cells.toList).length=q:=by simp;omega
    rw[this]
    simpa using hk
   ·by_cases hb:b=r
    ·subst hb
     have bh:p<q:=by
      rcases Nat.lt_or_ge p q with h|h
      ·exact h
      ·rw[hK p h]at hk;cases hk
     have hc:=m.know _ _ _ hk
     obtain⟨t',Gi⟩:=hu.at_
     simp only[World.cell?,hg]at hc
     simp only[World.cell?,Gi]
     simp only[Option.isSome_none,Hu,if_false]at hc ⊢
     rw[Hd,Hb,Ev (by simp;omega),G5 bh,Gw]
     exact hc
    ·have hc:=m.know _ _ _ hk
     simp only[World.cell?]at hc ⊢
     rw[hu.other b hb]
     exact hc
  ·intro b p v hk
   simp only[aA.put]at hk
   split at hk
   ·exact h1 v (Hf hk)
   ·exact m.cP b p v hk
  ·intro b p o hb
   simp only[aA.put]
   rw[if_neg]
   ·exact m.apart b p o hb
   ·rintro ⟨rfl,_⟩;exact hβ b hb
  ·intro b p hb
   rw[Gh];exact m.lt b p hb
  ·rw[Gh];exact m.size
  ·intro k hk hn hw
   have gM:k≠r:=fun h=>by
    subst h
    rcases hB with h|h
    ·omega
    ·rw[m.grown.w]at h;exact hw h
   rw[hu.other k gM];exact m.frame k hk hn hw
  ·intro k hk
   have gM:k≠r:=fun h=>by
    subst h
    have:=m.eQ k hk
    rw[hg]at this;cases this
   rw[hu.other k gM];exact m.eQ k hk
  ·intro k o hk hw
   have gM:k≠r:=fun h=>by
    subst h
    rcases hB with h|h
    ·omega
    ·rw[m.grown.w]at h;exact hw h
   simp only[aA.put]
   rw[if_neg (by rintro ⟨h,_⟩;exact gM h)]
   exact m.old k o hk hw
  ·intro b x p hx hb
   have bu:p≠r:=fun h=>hβ b (h▸hb)
   have uM:=m.box b x p hx hb
   have lf:bp P C ω w' w0.heap.size b p x:=uM.ib hu bu (fun j=>by rw[hω];simp)
   refine lf.mono hle fun j y v ho=>?_
   have lC:ω r≠I (.cell b j):=by rw[hω];simp
   exact(ho.put news (.inr lC)).other (.inl lC)
 ·intro t x hx
  have hlk:∃v o,yd s env=I (v,o)∨yd s env=En:=by
   cases h:yd s env with
   |none=>exact⟨.undef,Eu,.inr rfl⟩
   |some x=>exact⟨x.1,x.2,.inl rfl⟩
  by_cases lD:t=s
  ·subst lD
   simp only[gq]at hx
   cases hl:yd t env with
   |none=>rw[hl]at hx;simp only[hl]at hx;cases hx
   |some y=>
    rw[hl]at hx
    simp only[yd,Nat.beq_refl,cT]at hx
    cases hx
    obtain⟨v,h2,h3,_⟩:=e t y hl
    exact⟨v,h2,qh.mono hle h3,by simp⟩
  ·have eK:yd t env=I x:=by
    simp only[gq]at hx
    cases hl:yd s env with
    |none=>rw[hl]at hx;exact hx
    |some y=>
     rw[hl]at hx
     simp only[yd]at hx
     have:G9 s t=Eu:=by
      cases hb:G9 s t with
      |false=>rfl
      |true=>exact absurd (Ga hb).symm lD
     rw[this]at hx
     exact hx
   obtain⟨v,h2,h3,h4⟩:=e t x eK
   exact⟨v,h2,qh.mono hle h3,fun h=>cA _ _ _ (by simp[lD]) (h4 h)⟩
theorem Uc {t tx ty e:TypeId}{i:TypeInfo}(ht:P.underlying t=I (.slice e))(hi:P.info? e=I i)(r off mT Am:Nat)(x:Value)(n:Nat)(news:List Value)(hs:Src P i.size tx x n news w)(dR:mT+n≤Am)
  {cells} {te:TypeId} (hg:w.heap[r]?=I (.cells cells te (0,0))) (cf:off+mT*i.size+news.length≤cells.size):
  (Builtin.append_ #[t,tx] ty #[.slice (I ⟨r,off,En⟩) mT Am,x]).run P w =
   .ok (.slice (I ⟨r,off,En⟩) (mT+n) Am) (w.setRow r (cells.toList.take (off+mT*i.size)++news++cells.toList.drop (off+mT*i.size+news.length)).toArray):=by
 have bO:=run_storeCells_at (P:=P) r (off+mT*i.size) te news 0 cells w hg (by simpa using cf) hs.one
 simp only[Nat.add_zero]at bO
 rcases hs.kind with⟨e',hk⟩|hk<;>simp[Builtin.append_,run_underlying ht,run_underlying hk,sizeOf,typeInfo,hi,hs.len,dR,hs.cells,Addr.add_lit,bO]
theorem qni {t tx ty e:TypeId}{i:TypeInfo}(ht:P.underlying t=I (.slice e))(hi:P.info? e=I i)(x:Value)(hs:Src P i.size tx x 0 [] w):
  (Builtin.append_ #[t,tx] ty #[.slice En 0 0,x]).run P w=.ok (.slice En 0 0) w:=by
 rcases hs.kind with⟨e',hk⟩|hk<;>simp[Builtin.append_,run_underlying ht,run_underlying hk,sizeOf,typeInfo,hi,hs.len,hs.cells]
theorem NR (m:av P C ω w0 C0 hp w){u:TypeId}{ut:TypeDesc}{sz vy ys v}(hu:P.underlying u=I ut)(iZ:z7 ut=Eh)(h:ku sz vy=I ys)(hr:bG C vy v):
  ∃news,Src P sz u v ys.length news w∧aK C (ys.flatMap qa.flat) news∧(∀y∈ys,y.flat.length=sz)∧∀x∈news,x.oneCell'=Eh:=by
 have hk:(∃e',P.underlying u=I (.slice e'))∨P.underlying u=I .string:=by
  cases ut<;>simp[z7]at iZ
  ·exact .inr hu
  ·exact .inl ⟨_,hu⟩
 cases vy with
 |list n sy nQ=>
  simp only[ku]at h
  cases hb:(G9 sz sy||nQ.isEmpty)with
  |false=>simp[hb]at h
  |true=>
   simp only[hb,cT,I.injEq]at h
   subst h
   rcases hr.cG with⟨rfl,rfl,rfl⟩|⟨rfl,r,q,cap,rfl,_,cL⟩|⟨rfl,rfl,ad,_,rfl⟩
   ·exact⟨[],⟨hk,fun _=>rfl,run_firstCells_none w sz 0 0 0,run_firstCells_none w.drew sz 0 0 0,by simp,by simp⟩,.nil,by simp,by simp⟩
   ·obtain⟨news,h1,h2⟩:=bZ.vals cL.cells
    have h3:∀x∈news,x.oneCell'=Eh:=fun x hx=>by
     obtain⟨j,hj⟩:=Hg hx
     exact m.cP _ _ _ (h2 j x hj)
    have cB:∀y∈nQ,y.flat.length=sz:=by
     intro y hy
     rcases Bool.or_eq_true _ _▸hb with hb|hb
     ·rw[Ga hb];exact cL.sized y hy
     ·rw[List.isEmpty_iff.1 hb]at hy;cases hy
    have hl:news.length=nQ.length*sz:=by rw[h1.length,lB nQ cB]
    have hc:∀j u,news[j]?=I u→w.cell? ((⟨r,q,En⟩:Addr).add j)=I u:=fun j u hj=>by rw[add_lit];exact m.know _ _ _ (h2 j u hj)
    refine⟨news,⟨hk,fun _=>rfl,run_firstCells_some w sz _ _ _ _ news hl hc,run_firstCells_some w.drew sz _ _ _ _ news hl (by simpa using hc),hl,h3⟩,h1,cB,h3⟩
   ·exact⟨[],⟨hk,fun _=>rfl,run_firstCells_some w sz _ _ _ _ [] (by simp) (by simp),run_firstCells_some w.drew sz _ _ _ _ [] (by simp) (by simp),by simp,by simp⟩,.nil,by simp,by simp⟩
 |str s=>
  simp only[ku]at h
  cases hb:G9 sz 1 with
  |false=>simp[hb]at h
  |true=>
   simp only[hb,cT,I.injEq]at h
   obtain rfl:=Ga hb
   subst h
   obtain rfl:=hr.bW
   have jP:∀l:List UInt8,(l.map fun(c:UInt8)=>qa.int .u8 c.toNat).flatMap qa.flat=l.map fun(c:UInt8)=>qa.int .u8 c.toNat:=by
    intro l;induction l with
    |nil=>rfl
    |cons c l ih=>simp only[O9,N2,ih];rfl
   have fJ:∀l:List UInt8,aK C (l.map fun(c:UInt8)=>qa.int .u8 c.toNat) (l.map fun b=>Value.int .u8 b.toNat):=by
    intro l;induction l with
    |nil=>exact .nil
    |cons c l ih=>exact .cons _ _ _ _ (.int _ _) ih
   refine⟨byteCells ⟨⟨s⟩⟩,⟨hk,fun w'=>by simp[Builtin.lenOf];rfl,?_,?_,?_,?_⟩,?_,?_,?_⟩
   ·rw[Ob];exact firstCells_string (P:=P) ⟨⟨s⟩⟩ w
   ·rw[Ob];exact firstCells_string (P:=P) ⟨⟨s⟩⟩ w.drew
   ·simp[byteCells]
   ·intro u hu;obtain⟨_,_,rfl⟩:=Hm.1 hu;rfl
   ·rw[jP];simpa[byteCells]using fJ s
   ·intro y hy;obtain⟨_,_,rfl⟩:=Hm.1 hy;rfl
   ·intro u hu;obtain⟨_,_,rfl⟩:=Hm.1 hu;rfl
 |_=>simp[ku]at h
theorem Gj {x s}(h:kn env x=I s):x=.tmp s∧∃v,yd s env=I (v,Eh):=by
 unfold kn at h
 split at h
 ·split at h
  ·rename_i t v hl
   cases h
   exact⟨rfl,v,hl⟩
  ·cases h
 ·cases h
theorem q3n (e:ak C ω w w0.heap.size env a.tmps){x x' sz len cap xs ad}(h1:zp x=I x')(cA:(kn env x').isSome=Eh)(e1:zc env x'=I (.list Eu sz xs))(hx:a.eval x=.slice (I ad) len cap):ad.spot=En:=by
 obtain⟨s,gy⟩:=Hl.1 cA
 obtain⟨eK,v0,hl⟩:=Gj gy
 have iK:v0=.list Eu sz xs:=by
  subst eK
  simp only[zc,hl]at e1
  exact I.inj e1
 subst iK
 obtain⟨cv,xC,NS,Ao⟩:=e s _ hl
 have ox:cv=.slice (I ad) len cap:=by
  have ic:zp x=I (.tmp s):=by rw[h1,eK]
  cases x with
  |tmp t'=>
   simp only[zp]at ic
   cases ic
   have:a.eval (.tmp s)=cv:=by simp[Act.eval,Gb,xC]
   rw[←this,hx]
  |const u=>simp only[zp]at ic;split at ic<;>cases ic
  |func f=>simp[zp]at ic
  |global g=>simp[zp]at ic
 subst ox
 exact(Ao rfl).2.2.2.1
theorem q8f (m:av P C ω w0 C0 hp w)(e:ak C ω w w0.heap.size env a.tmps){c}{t u el:TypeId}{ut:TypeDesc}{x y x' y' sz b n cJ xs ys vy}
  (ho:o.op=.call c) (dz:c.callee=.builtin .append) (dL:c.args.toList=[x,y]) (dY:c.argTypes.toList=[t,u]) (ht:P.underlying t=I (.slice el)) (hu:P.underlying u=I ut) (iZ:z7 ut=Eh)
  (hn:yf P el=I sz) (hb:nJ P el=I b) (h1:zp x=I x') (h2:zp y=I y') (e1:zc env x'=I (.list n cJ xs)) (e2:zc env y'=I vy) (cx:ku sz vy=I ys)
  (cA:n=Eh∨(kn env x').isSome=Eh) (Ap:sz=cJ∨(xs=[]∧n=Eh)) (hlen:xs.length+ys.length≤1073741824) (iY:b≤4096) (hzero:∃z,ei P el=I z∧z.length=sz):
  ∃v w',(execOp a.eval o).run P w=.ok (.value v) w'∧km P C0 w0 C a.tmps d env ⟨pY n sz xs ys,Eh,kn env x',hp⟩ v w':=by
 have ha:c.args=#[x,y]:=by apply Od;simpa using dL
 have kB:c.argTypes=#[t,u]:=by apply Od;simpa using dY
 obtain⟨i,hi,qF⟩:∃i,P.info? el=I i∧i.bytes=b:=by
  unfold nJ at hb
  cases hi:P.info? el with
  |none=>simp[hi]at hb
  |some i=>exact⟨i,rfl,by simpa[hi]using hb⟩
 have kC:i.size=sz:=by
  unfold yf at hn;rw[hi]at hn;simpa using hn
 obtain⟨z,hz,Aq⟩:=hzero
 obtain⟨zv,mU⟩:∃zv,i.zero=I zv:=by
  unfold ei at hz;rw[hi]at hz
  cases hq:i.zero with
  |none=>simp[hq]at hz
  |some v=>exact⟨v,rfl⟩
 have rx:=zq e.bU h1 e1
 have ry:=zq e.bU h2 e2
 obtain⟨news,hs,cH,fk,cI⟩:=NR m hu iZ cx ry
 have ey:∀ {z:Value} {w':World},(Builtin.append_ #[t,u] o.type #[a.eval x,a.eval y]).run P w=.ok z w'→(execOp a.eval o).run P w=.ok (.value z) w':=by
  intro z w' h
  simp[execOp,ho,resolve,dz,ha,kB,invoke,builtin,h]
 have mV:news.length=ys.length*sz:=by rw[cH.length,lB ys fk]
 -- a new row
 have grow:∀(base:Option Addr) (cap:Nat) (dZ:List Value),a.eval x=.slice base xs.length cap→cap<xs.length+ys.length→(∀(w':World),w'=w.drew→(Builtin.firstCells i.size xs.length (.slice base xs.length cap)).run P w'=.ok dZ.toArray w') →
   aK C (xs.flatMap qa.flat) dZ→(∀v∈dZ,v.oneCell'=Eh)→(∀x∈xs,x.flat.length=sz) →
   ∃v w',(execOp a.eval o).run P w=.ok (.value v) w'∧km P C0 w0 C a.tmps d env ⟨.list Eu sz (xs++ys),Eh,kn env x',hp⟩ v w':=by
  intro base cap dZ qH hcap hold xD Gk oy
  have cf:Builtin.nextslicecap (xs.length+ys.length) cap*i.bytes≤281474976710656:=growslice_fits hcap (by
   rw[qF]
   exact Hx (Oh hlen iY) (by decide))
  have bq:=run_append_grow_src w t u o.type el i zv ht hi mU base xs.length cap dZ (hold _ rfl) (a.eval y) ys.length news (kC▸hs) hcap (by omega) cf
  rw[←qH]at bq
  refine⟨_,_,ey bq,?_⟩
  have hx:Ext w w.drew:=Ext.drew w
  have uN:=grownCap_ge w (xs.length+ys.length) cap el
  have gL:zv.cells.size=sz:=by
   obtain⟨_,zv',lz,Gl,_⟩:=uL (C:=C) hz
   have:=lz w
   simp[zeroValue,typeInfo,hi,mU]at this
   subst this
   have:=Gl.length
   simp at this
   omega
  have ew:=NP (d:=d) (tmps:=a.tmps) (m.ext hx) (e.ext hx) ((dZ++news).toArray++Builtin.zeroCells zv.cells (grownCap w (xs.length+ys.length) cap el-(xs.length+ys.length))) el (xs++ys) sz (grownCap w (xs.length+ys.length) cap el) (dZ++news)
   (by rw[List.flatMap_append];exact aK.append xD cH) (by
    intro j v hj
    rw[Array.getElem?_append_left (by simpa using(Gy.1 hj).1)]
    simpa using hj) (by
    intro v hv
    rcases Hk.1 hv with hv|hv
    ·exact Gk v hv
    ·exact cI v hv) (by
    intro x hx
    rcases Hk.1 hx with hx|hx
    ·exact oy x hx
    ·exact fk x hx) (by rw[Hv];exact uN) (by
    have ho:=xD.length
    rw[lB xs oy]at ho
    simp[Builtin.zeroCells,gL,ho,mV]
    rw[←Hq,←Hq]
    exact Ht _ (by omega)) (kn env x')
  rw[Hv]at ew
  exact ew
 rcases rx.cG with⟨rfl,rfl,hx⟩|⟨rfl,r,q,cap,hx,hle,cL⟩|⟨rfl,rfl,ad,l7,hx⟩
 rotate_right
 ·exact absurd (q3n e h1 (by rcases cA with h|h<;>first|cases h|exact h) e1 hx) l7
 ·-- nil
  cases ys with
  |nil=>
   have:news=[]:=by cases cH;rfl
   subst this
   refine⟨.slice En 0 0,w,ey ?_,C,ω,aA.le_refl C,m,e.strip _,by simpa[pY]using qh.iV 0,fun _=>trivial⟩
   rw[hx]
   exact qni ht hi _ (kC▸hs)
  |cons y1 ys1=>
   have:=grow En 0 [] hx (by simp) (fun w' _=>run_firstCells_none w' _ _ _ _) .nil (by simp) (by simp)
   simpa[pY]using this
 ·-- own
  rw[show pY Eu sz xs ys=.list Eu sz (xs++ys)from rfl]
  have Gm:(kn env x').isSome=Eh:=by rcases cA with h|h<;>first|cases h|exact h
  obtain⟨s,gy⟩:=Hl.1 Gm
  obtain⟨eK,v0,hl⟩:=Gj gy
  obtain rfl:sz=cJ:=by rcases Ap with h|⟨_,h⟩<;>first|exact h|cases h
  have iK:v0=.list Eu sz xs:=by
   subst eK
   simp only[zc,hl]at e1
   exact I.inj e1
  subst iK
  obtain⟨cv,xC,NS,Ao⟩:=e s _ hl
  have ox:cv=.slice (I ⟨r,q,En⟩) xs.length cap:=by
   have ic:zp x=I (.tmp s):=by rw[h1,eK]
   cases x with
   |tmp t'=>
    simp only[zp]at ic
    cases ic
    have:a.eval (.tmp s)=cv:=by simp[Act.eval,Gb,xC]
    rw[←this,hx]
   |const u=>simp only[zp]at ic;split at ic<;>cases ic
   |func f=>simp[zp]at ic
   |global g=>simp[zp]at ic
  subst ox
  obtain⟨hω,hB,hβ,_,NT,⟨cells,te,hg,cf,_⟩,hK⟩:=Ao rfl
  simp only at hω hB hβ hg cf hK
  obtain⟨dZ,Gn,ho2⟩:=bZ.vals cL.cells
  have oy:=cL.sized
  by_cases dR:xs.length+ys.length≤cap
  ·-- there is room
   have fZ:(xs.length+ys.length)*sz≤cap*sz:=Ht _ dR
   rw[Hq]at fZ
   have bq:=Uc (P:=P) (w:=w) (ty:=o.type) ht hi r q xs.length cap (a.eval y) ys.length news (kC▸hs) dR hg (by rw[kC,mV];omega)
   rw[←hx]at bq
   obtain⟨m',e',cy⟩:=qym (d:=d) (tmps:=a.tmps) m e (r:=r) (q:=q+xs.length*sz) (news:=news) hω hB hβ hg (by rw[mV];omega) hK cI
   rw[kC]at bq
   rw[gy]
   refine⟨_,_,ey bq,_,_,cy,m',e',?_,?_⟩
   ·have qI:bg (C.put r (q+xs.length*sz) news) r sz (xs++ys) q:=bg.append (qh.mono cy cL) (bg.eo (aA.eJ hK cH) fk)
    have:=qh.list sz (xs++ys) r q cap (by simpa using dR) qI
    simpa using this
   ·intro _
    have hall:∀x∈xs++ys,x.flat.length=sz:=fun x hx=>by
     rcases Hk.1 hx with hx|hx
     ·exact oy x hx
     ·exact fk x hx
    refine⟨by simp[cr],hB,hβ,rfl,NT,⟨_,te,setRow_heap w r cells _ te (0,0) hg,?_,ep.sized hall⟩,?_⟩
    ·simp;omega
    ·intro p hp
     rw[Hq]at hp
     simp only[aA.put]
     simp only at hp
     rw[if_neg (by rw[mV];omega)]
     exact hK p (by omega)
  ·-- there is none
   have fH:∀v∈dZ,v.oneCell'=Eh:=fun v hv=>by
    obtain⟨j,hj⟩:=Hg hv
    exact m.cP _ _ _ (ho2 j v hj)
   have Ud:dZ.length=xs.length*i.size:=by rw[Gn.length,lB xs oy,kC]
   have:=grow (I ⟨r,q,En⟩) cap dZ hx (by omega) (fun w' Ub=>run_firstCells_some w' _ _ _ _ _ dZ Ud (fun j v hj=>by
    subst Ub
    rw[add_lit]
    have:=m.know _ _ _ (ho2 j v hj)
    simpa using this)) Gn fH oy
   simpa using this
end
structure jk (w w':World)(r:Nat):Prop where
 size:w'.heap.size=w.heap.size
 other:∀k,k≠r→w'.heap[k]?=w.heap[k]?
 fz:∀c t fr,w'.heap[r]?=I (.cells c t fr)→fr=(0,0)
 os:w'.os=w.os
 output:w'.output=w.output
theorem jn.ib {w w' r cs}(h:jn w w' r cs):jk w w' r:=
 ⟨h.size,h.other,fun c t fr hc=>by obtain⟨t',ht⟩:=h.at_;rw[ht]at hc;cases hc;rfl,h.os,h.output⟩
section
variable {P:Program}{C C0:aA}{ω:Nat→Option Loc}{w w' w0:World}{hp:za}{env:Env}{a:Act}{o:Oper}{tmps:Array Value}{d:Loc}
theorem aB.dh {B b r ℓ x v}(hu:jk w w' r)(hb:C.β b=I r)(ho:aB C ω w B ℓ x v):aB C ω w' B ℓ x v:=by
 unfold aB at *
 split at ho
 ·obtain⟨h1,h2,h3,h4,h8,⟨cells,elem,h5,h6⟩,h7⟩:=ho
  refine⟨h1,h2,h3,h4,h8,⟨cells,elem,?_,h6⟩,h7⟩
  rw[hu.other _ (fun h=>h3 b (by rw[h];exact hb))]
  exact h5
 ·obtain⟨h1,h2,h3,h4,h8,⟨cells,elem,h5,h6⟩,h7⟩:=ho
  refine⟨h1,h2,h3,h4,h8,⟨cells,elem,?_,h6⟩,h7⟩
  rw[hu.other _ (fun h=>h3 b (by rw[h];exact hb))]
  exact h5
 ·trivial
theorem ak.dh {B b r}(hu:jk w w' r)(hb:C.β b=I r)(e:ak C ω w B env tmps):ak C ω w' B env tmps:=
 fun s x hx=>let ⟨v,h1,h2,h3⟩:=e s x hx; ⟨v,h1,h2,fun h=>(h3 h).dh hu hb⟩
theorem bp.dh {B b b' r r' x}(hu:jk w w' r)(hb:C.β b=I r)(bu:r'≠r)(h:bp P C ω w B b' r' x):bp P C ω w' B b' r' x:=by
 have hg:=hu.other r' bu
 cases x with
 |hole=>exact h
 |cells dV=>
  obtain⟨vs,elem,h1,h2,h3⟩:=h
  exact⟨vs,elem,by rw[hg];exact h1,h2,fun j c hc=>let ⟨v,a,q,b,d⟩:=h3 j c hc; ⟨v,a,q,b,fun e=>(d e).dh hu hb⟩⟩
 |map es=>obtain⟨bQ,clock,h1,h2⟩:=h;exact⟨bQ,clock,by rw[hg];exact h1,h2⟩
 |iter s pos=>show w'.heap[r']?=_;rw[hg];exact h
 |loop l=>obtain⟨lp,h1,h2⟩:=h;exact⟨lp,by rw[hg];exact h1,h2⟩
 |fE t e l=>obtain⟨p,v,h1,h2,h3,h4⟩:=h;exact⟨p,v,by rw[hg];exact h1,h2,h3,h4.dh hu hb⟩
 |dead=>obtain⟨cs,t,h1⟩:=h;exact⟨cs,t,by rw[hg];exact h1⟩
 |vec sz bz xs=>exact dG.imp (fun _ _ _ h=>h) (fun _ h=>h) (fun _ h _=>h) hg (fun q n cap k=>⟨hu.other q (fun hq=>k.2.2.1 b (by rw[hb];exact congrArg I hq.symm)),k.dh hu hb⟩) h
theorem av.dv {ω'}(m:av P C ω w0 C0 hp w){b r}(hu:jk w w' r)(hb:C.β b=I r)(x':qn)(hω:∀b' j y v,b'≠b→aB C ω w w0.heap.size (.cell b' j) y v→aB C ω' w w0.heap.size (.cell b' j) y v)
  (ga:bp P C ω' w' w0.heap.size b r x'):av P C ω' w0 C0 (hp.set b x') w':=by
 have hfr:=m.fresh b r hb
 have qJ:w.heap[r]?≠I (.deferred (I [])):=by
  obtain⟨x,hx⟩:=G3 (m.lt b r hb).2▸(⟨_,rfl⟩:∃x,I (hp[b]'(m.lt b r hb).2)=I x)
  have h0:=m.box b x r hx hb
  intro h
  cases x with
  |hole=>exact h0
  |cells cs=>obtain⟨vs,elem,h1,_⟩:=h0;rw[h]at h1;cases h1
  |map es=>obtain⟨bQ,clock,h1,_⟩:=h0;rw[h]at h1;cases h1
  |iter s pos=>have h1:w.heap[r]?=_:=h0;rw[h]at h1;cases h1
  |loop l=>obtain⟨lp,h1,_⟩:=h0;rw[h]at h1;cases h1
  |fE t e l=>obtain⟨p,v,h1,_⟩:=h0;rw[h]at h1;cases h1
  |dead=>obtain⟨cs,t,h1⟩:=h0;rw[h]at h1;cases h1
  |vec sz bz xs=>obtain⟨_,_,_,_,_,_,cs,t,h1⟩:=h0;rw[h]at h1;cases h1
 refine { base:=m.base,know:=?_,cP:=m.cP,apart:=m.apart,inj:=m.inj,lt:=?_,size:=?_,frame:=?_,eQ:=?_,os:=hu.os.trans m.os,output:=hu.output.trans m.output,fresh:=m.fresh,grown:=m.grown,old:=m.old,box:=?_,gW:=fun q hq=>by rw[hu.size];exact m.gW q hq }
 ·intro k p v hk
  have bu:k≠r:=fun h=>by rw[h,m.apart b r p hb]at hk;cases hk
  have hc:=m.know _ _ _ hk
  simp only[World.cell?]at hc ⊢
  rw[hu.other k bu]
  exact hc
 ·intro k p hk
  rw[hu.size,Hn];exact m.lt k p hk
 ·rw[hu.size];exact m.size
 ·intro k hk hn hw
  by_cases gM:k=r
  ·subst gM
   rcases hfr with h|h|h
   ·exact absurd h (hn b)
   ·omega
   ·exact absurd h hw
  ·rw[hu.other k gM];exact m.frame k hk hn hw
 ·intro k hk
  have gM:k≠r:=fun h=>qJ (h▸m.eQ k hk)
  rw[hu.other k gM];exact m.eQ k hk
 ·intro k x p hx hk
  by_cases kD:k=b
  ·subst kD
   rw[hb]at hk
   cases hk
   rw[Hc (m.lt k _ hb).2]at hx
   cases hx
   exact ga
  ·rw[Hj (Ne.symm kD)]at hx
   have qE:p≠r:=fun h=>kD (m.inj k b p hk (h▸hb))
   have h0:=m.box k x p hx hk
   exact((h0.dh hu hb qE).mono (ω':=ω') (aA.le_refl C) (fun j y v ho=>by
    have:=hω k j y v kD
    -- the ownerships of other boxes,in the new world
    unfold aB at ho this ⊢
    split at ho
    ·obtain⟨h1,h2,h3,h4,h8,⟨cells,elem,h5,h6⟩,h7⟩:=ho
     rename_i ad len cap
     have lC:ad.block≠r:=fun h=>h3 b (h▸hb)
     rw[hu.other _ lC]at h5
     obtain⟨k1,_⟩:=this ⟨h1,h2,h3,h4,h8,⟨cells,elem,h5,h6⟩,h7⟩
     exact⟨k1,h2,h3,h4,h8,⟨cells,elem,by rw[hu.other _ lC];exact h5,h6⟩,h7⟩
    ·obtain⟨h1,h2,h3,h4,h8,⟨cells,elem,h5,h6⟩,h7⟩:=ho
     rename_i ad
     have lC:ad.block≠r:=fun h=>h3 b (h▸hb)
     rw[hu.other _ lC]at h5
     obtain⟨k1,_⟩:=this ⟨h1,h2,h3,h4,h8,⟨cells,elem,h5,h6⟩,h7⟩
     exact⟨k1,h2,h3,h4,h8,⟨cells,elem,by rw[hu.other _ lC];exact h5,h6⟩,h7⟩
    ·trivial))
theorem bp.read {B b r off n cs us}(h:bp P C ω w B b r (.cells cs))(hl:kf cs off n=I us):
  ∃vs,aK C us vs∧us.length=n∧vs.length=n∧(∀j v,vs[j]?=I v→w.cell? ⟨r,off+j,En⟩=I v)∧∀v∈vs,v.oneCell'=Eh:=by
 unfold kf at hl
 cases hb:Nat.ble (off+n) cs.length with
 |false=>simp[hb]at hl
 |true=>
  simp only[hb,cT,I.injEq]at hl
  subst hl
  have hle:=Hr hb
  obtain⟨vs,elem,h1,h2,h3⟩:=h
  have key:∀(n off:Nat),off+n≤cs.length→∃ws:List Value,aK C (((cs.drop off).take n).map (·.1)) ws∧ws.length=n∧∀j v,ws[j]?=I v→vs[off+j]?=I v∧v.oneCell'=Eh:=by
   intro n
   induction n with
   |zero=>intro off _;exact⟨[],by simpa using qh.nil,rfl,by simp⟩
   |succ n ih=>
    intro off hle
    obtain⟨ws,i1,i2,i3⟩:=ih (off+1) (by omega)
    have bh:off<cs.length:=by omega
    obtain⟨v,j1,j2,j3,_⟩:=h3 off cs[off] (G3 bh)
    refine⟨v::ws,?_,by simp[i2],?_⟩
    ·rw[List.drop_eq_getElem_cons bh]
     exact .cons _ _ _ _ j3 i1
    ·intro j u hj
     cases j with
     |zero=>simp at hj;subst hj;exact⟨j1,j2⟩
     |succ j=>simp at hj;rw[show off+(j+1)=off+1+j from by omega];exact i3 j u hj
  obtain⟨ws,k1,k2,k3⟩:=key n off hle
  refine⟨ws,k1,by simp;omega,k2,?_,?_⟩
  ·intro j v hj
   have:=(k3 j v hj).1
   simp[World.cell?,h1,this]
  ·intro v hv
   obtain⟨j,hj⟩:=Hg hv
   exact(k3 j v hj).2
theorem Gp {t:TypeId}{n r off vs}(hg:fh P t=I Eh)(hn:yf P t=I n)(hl:vs.length=n)(hc:∀j v,vs[j]?=I v→w.cell? ⟨r,off+j,En⟩=I v):
  (loadVar t ⟨r,off,En⟩).run P w=.ok (.agg ⟨vs⟩) w:=by
 have:=run_loadCells_list (P:=P) w ⟨r,off,En⟩ vs (fun j v hj=>by rw[add_lit];exact hc j v hj)
 rw[hl]at this
 simp[loadVar,Em hg,iX hn,this]
theorem Gq {t:TypeId}{r off v}(hg:fh P t=I Eu)(hc:w.cell? ⟨r,off,En⟩=I v):(loadVar t ⟨r,off,En⟩).run P w=.ok v w:=by
 simp[loadVar,Em hg,hc]
theorem Ue (m:av P C ω w0 C0 hp w)(he:aX C env a.tmps){t:TypeId}{x x' n ag p v}(ho:o.op=.load t x)(hg:fh P t=I ag)(hn:yf P t=I n)(Gr:ag=Eu→n=1)(h1:zp x=I x')(e1:zc env x'=I p)
  (hv:(∃b q cs us,p=.ptr b q∧ym hp b=I cs∧kf cs q n=I us∧((ag=Eh∧v=.agg us)∨(ag=Eu∧us=[v])))∨(p=.ah v∧Bool.xor ag v.isAgg=Eu∧v.flat.length=n)):Val P C a o w v:=by
 rcases hv with⟨b,q,cs,us,rfl,lg,hl,hv⟩|⟨rfl,hx,vS⟩
 ·obtain⟨r,hr,hq⟩:=(zq he h1 e1).cU
  have gd:hp[b]?=I (.cells cs):=by
   unfold ym at lg
   split at lg
   ·rename_i dV h;cases lg;exact h
   ·cases lg
  obtain⟨vs,k1,_,k2,k3,_⟩:=(m.box b _ r gd hr).read hl
  rcases hv with⟨rfl,rfl⟩|⟨rfl,rfl⟩
  ·exact⟨.agg ⟨vs⟩,by simp[execOp,ho,Instr.loadAt,hq,Instr.sureAddr,Gp hg hn k2 k3],.agg _ _ k1⟩
  ·cases k1 with
   |cons _ _ u us hu kA=>
    cases kA
    refine⟨u,?_,hu⟩
    have:=Gq (P:=P) hg (by simpa using k3 0 u rfl)
    simp[execOp,ho,Instr.loadAt,hq,Instr.sureAddr,this]
 ·obtain⟨r,q,hq,hc⟩:=(zq he h1 e1).et
  obtain⟨vs,k1,k2⟩:=bZ.vals hc
  have hl:vs.length=n:=by rw[k1.length,vS]
  have k3:∀j u,vs[j]?=I u→w.cell? ⟨r,q+j,En⟩=I u:=fun j u hj=>m.know _ _ _ (k2 j u hj)
  cases ag with
  |true=>
   cases v<;>simp[qa.isAgg]at hx
   exact⟨.agg ⟨vs⟩,by simp[execOp,ho,Instr.loadAt,hq,Instr.sureAddr,Gp hg hn hl k3],.agg _ _ k1⟩
  |false=>
   rw[qcb (by simpa using hx)]at k1
   cases k1 with
   |cons _ _ u us hu kA=>
    cases kA
    refine⟨u,?_,hu⟩
    have:=Gq (P:=P) hg (by simpa using k3 0 u rfl)
    simp[execOp,ho,Instr.loadAt,hq,Instr.sureAddr,this]
def aA.box (C:aA)(b r:Nat):aA:={ C with β:=fun k=>if k=b then I r else C.β k }
theorem aA.kE {b r}(h:C.β b=En):C.le (C.box b r):=
 ⟨fun _ _ _ h=>h,fun k p hk=>by
  simp only[aA.box]
  rw[if_neg (fun hb=>by rw[hb,h]at hk;cases hk)]
  exact hk,rfl,fun _ h=>h,fun _ h=>h⟩
theorem aB.box {B b r ℓ x v}(hr:w.heap.size≤r∨ω r≠I ℓ)(ho:aB C ω w B ℓ x v):aB (C.box b r) ω w B ℓ x v:=by
 unfold aB at *
 split at ho
 ·rename_i ad len cap
  obtain⟨h1,h2,h3,h4,h8,⟨cells,elem,h5,h6⟩,h7⟩:=ho
  have bh:ad.block<w.heap.size:=(Gx.1 h5).1
  refine⟨h1,h2,fun k hk=>?_,h4,h8,⟨cells,elem,h5,h6⟩,h7⟩
  simp only[aA.box]at hk
  split at hk
  ·have gY:r=ad.block:=I.inj hk
   rcases hr with hr|hr
   ·omega
   ·exact hr (gY▸h1)
  ·exact h3 k hk
 ·rename_i ad
  obtain⟨h1,h2,h3,h4,h8,⟨cells,elem,h5,h6⟩,h7⟩:=ho
  have bh:ad.block<w.heap.size:=(Gx.1 h5).1
  refine⟨h1,h2,fun k hk=>?_,h4,h8,⟨cells,elem,h5,h6⟩,h7⟩
  simp only[aA.box]at hk
  split at hk
  ·have gY:r=ad.block:=I.inj hk
   rcases hr with hr|hr
   ·omega
   ·exact hr (gY▸h1)
  ·exact h3 k hk
 ·trivial
theorem lE {h0 rk x h'}(h:aF h0 hp rk x=I h'):hp[h0+rk]?=I .hole∧h'=hp.set (h0+rk) x:=by
 unfold aF at h
 split at h
 ·rename_i hh;cases h;exact⟨hh,rfl⟩
 ·cases h
theorem Gs (m:av P C ω w0 C0 hp w){b}(h:hp[b]?=I .hole):C.β b=En:=by
 cases hb:C.β b with
 |none=>rfl
 |some r=>exact(m.box b .hole r h hb).elim
theorem av.aF (m:av P C ω w0 C0 hp w)(e:ak C ω w w0.heap.size env tmps){b}(hh:hp[b]?=I .hole)(obj:Obj)(Uf:∀c t fr,obj=.cells c t fr→fr=(0,0))(x:qn)
  (ga:∀C' ω' w',C.le C'→w'.heap[w.heap.size]?=I obj→bp P C' ω' w' w0.heap.size b w.heap.size x):
  av P (C.box b w.heap.size) ω w0 C0 (hp.set b x) (w.alloc obj)∧ak (C.box b w.heap.size) ω (w.alloc obj) w0.heap.size env tmps∧C.le (C.box b w.heap.size):=by
 have hx:Ext w (w.alloc obj):=Ext.alloc w obj Uf
 have hβ:=Gs m hh
 have hle:=aA.kE (C:=C) (r:=w.heap.size) hβ
 have m':=m.ext hx
 have bh:b<hp.length:=(Gy.1 hh).1
 refine⟨{ m' with apart:=?_,inj:=?_,lt:=?_,fresh:=?_,grown:=aA.le_trans m.grown hle,box:=?_ },?_,hle⟩
 ·intro k r q hk
  simp only[aA.box]at hk
  split at hk
  ·cases hk;exact m.jK _ (Gc _) q
  ·exact m.apart k r q hk
 ·intro k k' r hk ez
  simp only[aA.box]at hk ez
  split at hk<;>split at ez
  ·rename_i h1 h2;rw[h1,h2]
  ·cases hk;have:=(m.lt k' _ ez).1;omega
  ·cases ez;have:=(m.lt k _ hk).1;omega
  ·exact m.inj k k' r hk ez
 ·intro k r hk
  rw[Hn]
  simp only[aA.box]at hk
  split at hk
  ·rename_i h1;cases hk;subst h1;exact⟨by rw[World.size_alloc];omega,bh⟩
  ·have:=m.lt k r hk;exact⟨by rw[World.size_alloc];omega,this.2⟩
 ·intro k r hk
  simp only[aA.box]at hk
  split at hk
  ·cases hk;exact .inr (.inl m.size)
  ·exact m.fresh k r hk
 ·intro k y r hy hk
  simp only[aA.box]at hk
  split at hk
  ·rename_i h1
   subst h1
   cases hk
   rw[Hc bh]at hy
   cases hy
   exact ga _ _ _ hle (by rw[vQ,if_pos rfl])
  ·rename_i h1
   rw[Hj (Ne.symm h1)]at hy
   exact((m.box k y r hy hk).mono (ω':=ω) hle fun j z v ho=>ho.box (.inl (Gc _))).ext hx
 ·exact fun s y hy=>let ⟨v,h1,h2,h3⟩:=e s y hy; ⟨v,h1,qh.mono hle h2,fun h=>((h3 h).box (.inl (Gc _))).ext hx⟩
theorem aB.Gt {B b r ℓ x v}(hr:∀cs t fr,w.heap[r]?≠I (.cells cs t fr))(ho:aB C ω w B ℓ x v):aB (C.box b r) ω w B ℓ x v:=by
 unfold aB at *
 split at ho
 ·rename_i ad len cap
  obtain⟨h1,h2,h3,h4,h8,⟨cells,elem,h5,h6⟩,h7⟩:=ho
  refine⟨h1,h2,fun k hk=>?_,h4,h8,⟨cells,elem,h5,h6⟩,h7⟩
  simp only[aA.box]at hk
  split at hk
  ·have gY:r=ad.block:=I.inj hk
   exact absurd (gY▸h5) (hr _ _ _)
  ·exact h3 k hk
 ·rename_i ad
  obtain⟨h1,h2,h3,h4,h8,⟨cells,elem,h5,h6⟩,h7⟩:=ho
  refine⟨h1,h2,fun k hk=>?_,h4,h8,⟨cells,elem,h5,h6⟩,h7⟩
  simp only[aA.box]at hk
  split at hk
  ·have gY:r=ad.block:=I.inj hk
   exact absurd (gY▸h5) (hr _ _ _)
  ·exact h3 k hk
 ·trivial
theorem av.Gu (m:av P C ω w0 C0 hp w)(e:ak C ω w w0.heap.size env tmps){b q es bQ clock}(hh:hp[b]?=I .hole)(hg:w.heap[q]?=I (.map bQ clock))(hq:∀k,C.β k≠I q)(hb:w0.heap.size≤q)(hr:qy C es bQ.toList):
  av P (C.box b q) ω w0 C0 (hp.set b (.map es)) w∧ak (C.box b q) ω w w0.heap.size env tmps∧C.le (C.box b q):=by
 have hβ:=Gs m hh
 have hle:=aA.kE (C:=C) (r:=q) hβ
 have bh:b<hp.length:=(Gy.1 hh).1
 have lh:∀cs t fr,w.heap[q]?≠I (.cells cs t fr):=fun cs t fr h=>by rw[hg]at h;cases h
 refine⟨{ m with apart:=?_,inj:=?_,lt:=?_,fresh:=?_,grown:=aA.le_trans m.grown hle,box:=?_ },?_,hle⟩
 ·intro k r o hk
  simp only[aA.box]at hk
  split at hk
  ·cases hk
   show C.K q o=En
   cases hK:C.K q o with
   |none=>rfl
   |some v=>
    have:=m.know q o v hK
    simp[World.cell?,hg]at this
  ·exact m.apart k r o hk
 ·intro k k' r hk ez
  simp only[aA.box]at hk ez
  split at hk<;>split at ez
  ·rename_i h1 h2;rw[h1,h2]
  ·cases hk;exact absurd ez (hq k')
  ·cases ez;exact absurd hk (hq k)
  ·exact m.inj k k' r hk ez
 ·intro k r hk
  rw[Hn]
  simp only[aA.box]at hk
  split at hk
  ·rename_i h1;cases hk;subst h1;exact⟨(Gx.1 hg).1,bh⟩
  ·exact m.lt k r hk
 ·intro k r hk
  simp only[aA.box]at hk
  split at hk
  ·cases hk;exact .inr (.inl hb)
  ·exact m.fresh k r hk
 ·intro k y r hy hk
  simp only[aA.box]at hk
  split at hk
  ·rename_i h1
   subst h1
   cases hk
   rw[Hc bh]at hy
   cases hy
   exact⟨bQ,clock,hg,hr.mono hle⟩
  ·rename_i h1
   rw[Hj (Ne.symm h1)]at hy
   exact(m.box k y r hy hk).mono (ω':=ω) hle fun j z v ho=>ho.Gt lh
 ·exact fun s y hy=>let ⟨v,h1,h2,h3⟩:=e s y hy; ⟨v,h1,qh.mono hle h2,fun h=>(h3 h).Gt lh⟩
theorem Ug {xs vs}{t:TypeId}{B b r cells}(hr:aK C xs vs)(hs:∀x∈xs,zd x=Eh)(hv:∀(j:Nat) v,vs[j]?=I v→cells[j]?=I v)(hl:xs.length≤cells.size):
  ∀C' ω' w',C.le C'→w'.heap[r]?=I (.cells cells t (0,0))→bp P C' ω' w' B b r (.cells (cellsOf xs)):=by
 intro C' ω' w' hle hg
 refine⟨cells,t,hg,by simpa[cellsOf]using hl,?_⟩
 intro j c hc
 simp only[cellsOf,If,Option.map_eq_some_iff]at hc
 obtain⟨x,hx,rfl⟩:=hc
 obtain⟨v,h1,h2⟩:=hr.get hx
 exact⟨v,hv j v h1,Ua h2 (hs x (Hf hx)),qh.mono hle h2,by simp⟩
theorem jcr (m:av P C ω w0 C0 hp w)(e:ak C ω w w0.heap.size env a.tmps){t:TypeId}{z h0 rk h'}(ho:o.op=.alloc t)(hz:ei P t=I z)(hs:∀x∈z,zd x=Eh)(hn:aF h0 hp rk (.cells (cellsOf z))=I h'):
  ∃v w',(execOp a.eval o).run P w=.ok (.value v) w'∧km P C0 w0 C a.tmps d env ⟨.ptr (h0+rk) 0,Eu,En,h'⟩ v w':=by
 obtain⟨hh,rfl⟩:=lE hn
 obtain⟨_,zv,lb,cu,lz⟩:=uL (C:=C) hz
 obtain⟨m',e',hle⟩:=m.aF e hh (.cells zv.cells t) (fun c t fr h=>by cases h;rfl) (.cells (cellsOf z)) (Ug cu hs (fun j v h=>by simpa using h) (by have:=cu.length;simp at this;omega))
 refine⟨.pointer (I ⟨w.heap.size,0,En⟩),_,?_,_,_,hle,m',e',.ptr _ _ _ (by simp[aA.box]),by simp⟩
 simp[execOp,ho,Instr.alloc,lb,newVar,newRow]
theorem joo (m:av P C ω w0 C0 hp w)(e:ak C ω w w0.heap.size env a.tmps){t:TypeId}{x x' v h0 rk h'}(ho:o.op=.box t x)(h1:zp x=I x')(e1:zc env x'=I v)(hs:v.flat.all zd=Eh)
  (hn:aF h0 hp rk (.cells (cellsOf v.flat))=I h'):
  ∃v w',(execOp a.eval o).run P w=.ok (.value v) w'∧km P C0 w0 C a.tmps d env ⟨.ptr (h0+rk) 0,Eu,En,h'⟩ v w':=by
 obtain⟨hh,rfl⟩:=lE hn
 have hr:=Ai (zq e.bU h1 e1) hs
 obtain⟨m',e',hle⟩:=m.aF e hh (.cells (a.eval x).cells t) (fun c t fr h=>by cases h;rfl) (.cells (cellsOf v.flat)) (Ug hr (by simpa using hs) (fun j v h=>by simpa using h) (by have:=hr.length;simp at this;omega))
 refine⟨.pointer (I ⟨w.heap.size,0,En⟩),_,?_,_,_,hle,m',e',.ptr _ _ _ (by simp[aA.box]),by simp⟩
 simp[execOp,ho,Instr.box,newVar,newRow]
theorem jgp (m:av P C ω w0 C0 hp w)(e:ak C ω w w0.heap.size env a.tmps){t:TypeId}{x x' v}(ho:o.op=.box t x)(h1:zp x=I x')(e1:zc env x'=I v)(hs:v.flat.all zd=Eh):
  ∃u w',(execOp a.eval o).run P w=.ok (.value u) w'∧km P C0 w0 C a.tmps d env ⟨.ah v,Eu,En,hp⟩ u w':=by
 have hr:=Ai (zq e.bU h1 e1) hs
 have hx:Ext w (w.alloc (.cells (a.eval x).cells t)):=Ext.alloc w _ (fun c t fr h=>by cases h;rfl)
 have hn:∀o,0≤o→C.K w.heap.size o=En:=fun o _=>m.jK _ (Gc _) o
 have m':=m.newRow (a.eval x).cells t (a.eval x).cells.toList (fun j v h=>by simpa using h) (Ak hr (fun y hy=>N5.1 hs y hy))
 refine⟨.pointer (I ⟨w.heap.size,0,En⟩),_,?_,_,ω,aA.fY _ hn,m',(e.put _ (.inl (Gc _)) hn).ext hx,.ah _ _ _ (aA.eJ hn hr),by simp⟩
 simp[execOp,ho,Instr.box,newVar,newRow]
theorem jny (m:av P C ω w0 C0 hp w)(e:ak C ω w w0.heap.size env a.tmps){t:TypeId}{e' sz h0 rk h'}(ho:o.op=.alloc t)(hz:ei P t=I [.bN,.list Eh sz []])(hn:aF h0 hp rk (.fE t e' [])=I h'):
  ∃v w',(execOp a.eval o).run P w=.ok (.value v) w'∧km P C0 w0 C a.tmps d env ⟨.ptr (h0+rk) 0,Eu,En,h'⟩ v w':=by
 obtain⟨hh,rfl⟩:=lE hn
 obtain⟨_,zv,lb,cu,lz⟩:=uL (C:=C) hz
 have hzc:zv.cells=#[.pointer En,.slice En 0 0]:=by
  apply Od
  generalize zv.cells.toList=vs at cu
  cases cu with
  |cons _ _ v vs h1 h2=>
   cases h2 with
   |cons _ _ u us h3 h4=>
    cases h4
    cases h1
    cases h3
    rfl
 obtain⟨m',e',hle⟩:=m.aF e hh (.cells zv.cells t) (fun c t fr h=>by cases h;rfl) (.fE t e' []) (fun C' ω' w' _ hg=>⟨.pointer En,.slice En 0 0,by rw[hzc]at hg;exact hg,.inl rfl,.inl ⟨rfl,rfl⟩,trivial⟩)
 refine⟨.pointer (I ⟨w.heap.size,0,En⟩),_,?_,_,_,hle,m',e',.ptr _ _ _ (by simp[aA.box]),by simp⟩
 simp[execOp,ho,Instr.alloc,lb,newVar,newRow]
theorem jds (m:av P C ω w0 C0 hp w)(e:ak C ω w w0.heap.size env a.tmps){t:TypeId}{h0 rk h'}(ho:o.op=.makeMap t En)(hn:aF h0 hp rk (.map [])=I h'):
  ∃v w',(execOp a.eval o).run P w=.ok (.value v) w'∧km P C0 w0 C a.tmps d env ⟨.map (h0+rk),Eu,En,h'⟩ v w':=by
 obtain⟨hh,rfl⟩:=lE hn
 obtain⟨m',e',hle⟩:=m.aF e hh (.map #[] 0) (fun c t fr h=>by cases h) (.map []) (fun C' ω' w' _ hg=>⟨#[],0,hg,.nil⟩)
 refine⟨.map (I w.heap.size),_,?_,_,_,hle,m',e',.map _ _ (by simp[aA.box]),by simp⟩
 simp[execOp,ho,Instr.makeMap]
theorem q8u (m:av P C ω w0 C0 hp w)(e:ak C ω w w0.heap.size env a.tmps){t:TypeId}{x x' s h0 rk h'}(ho:o.op=.range t x)(ht:P.underlying t=I .string)(h1:zp x=I x')(e1:zc env x'=I (.str s))(hn:aF h0 hp rk (.iter s 0)=I h'):
  ∃v w',(execOp a.eval o).run P w=.ok (.value v) w'∧km P C0 w0 C a.tmps d env ⟨.ptr (h0+rk) 0,Eu,En,h'⟩ v w':=by
 obtain⟨hh,rfl⟩:=lE hn
 have hs:=(zq e.bU h1 e1).bW
 obtain⟨m',e',hle⟩:=m.aF e hh (.stringIter ⟨⟨s⟩⟩ 0) (fun c t fr h=>by cases h) (.iter s 0) (fun C' ω' w' _ hg=>hg)
 refine⟨.pointer (I ⟨w.heap.size,0,En⟩),_,?_,_,_,hle,m',e',.ptr _ _ _ (by simp[aA.box]),by simp⟩
 simp[execOp,ho,Instr.range,run_underlying ht,hs]
end
section
variable {P:Program}{C C0:aA}{ω:Nat→Option Loc}{w w' w0:World}{hp:za}{env:Env}{a:Act}{o:Oper}{tmps:Array Value}{d:Loc}
def uO (ω:Nat→Option Loc)(x:qa)(v:Value)(ℓ:Loc):Nat→Option Loc:=
 match x,v with
 | .list ..,.slice (I ad) _ _=>cr ω ad.block ℓ
 | .cE _,.pointer (I ad)=>cr ω ad.block ℓ
 |_,_=>ω
theorem xE {B ℓ0 ℓ ℓ' x z cv u}(h0:aB C ω w B ℓ0 x cv)(bu:ℓ≠ℓ0)(hz:aB C ω w B ℓ z u):aB C (uO ω x cv ℓ') w B ℓ z u:=by
 unfold uO
 split
 ·rename_i ad l c
  have hω:ω ad.block=I ℓ0:=h0.1
  exact hz.other (.inl (by rw[hω];intro h;exact bu (I.inj h).symm))
 ·rename_i n ad
  have hω:ω ad.block=I ℓ0:=h0.1
  exact hz.other (.inl (by rw[hω];intro h;exact bu (I.inj h).symm))
 ·exact hz
theorem NU {B ℓ0 ℓ' x cv}(h0:aB C ω w B ℓ0 x cv):aB C (uO ω x cv ℓ') w B ℓ' x cv:=by
 unfold uO
 split
 ·exact⟨by simp[cr],h0.2⟩
 ·exact⟨by simp[cr],h0.2⟩
 ·rename_i h1 h2
  unfold aB
  split
  ·exact absurd rfl (h1 _ _ _ _ _ _ rfl)
  ·exact absurd rfl (h2 _ _ rfl)
  ·trivial
theorem vU {b cs}(h:ym hp b=I cs):hp[b]?=I (.cells cs):=by
 unfold ym at h
 split at h
 ·rename_i dV h';cases h;exact h'
 ·cases h
theorem Ar {b x h'}(h:yh hp b x=I h'):h'=hp.set b x:=by
 unfold yh at h
 cases hb:Nat.blt b hp.length with
 |false=>simp[hb]at h
 |true=>simpa[hb]using h.symm
theorem bp.store {ω':Nat→Option Loc}{B b r off:Nat}{cs:List (qa×Bool)}{us:List qa}{news:List Value}{fl:List Bool}{vs:Array Value}{t:TypeId}(vV:fl.length=us.length)(hr:aK C us news)(h1:∀v∈news,v.oneCell'=Eh)
  (hl:off+us.length≤cs.length) (cB:cs.length≤vs.size) (hold:∀j c,cs[j]?=I c→∃v,vs[j]?=I v∧v.oneCell'=Eh∧bG C c.1 v∧(c.2=Eh→aB C ω' w' B (.cell b j) c.1 v))
  (cQ:∀j u v,us[j]?=I u→news[j]?=I v→fl[j]?=I Eh→aB C ω' w' B (.cell b (off+j)) u v)
  (hg:w'.heap[r]?=I (.cells (vs.toList.take off++news++vs.toList.drop (off+news.length)).toArray t (0,0))):
  bp P C ω' w' B b r (.cells (cs.take off++us.zip fl++cs.drop (off+us.length))):=by
 have mV:=hr.length
 refine⟨_,t,hg,?_,?_⟩
 ·simp;omega
 ·intro j c hc
  rw[Hb]at hc
  have e1:(Ov off cs).length=off:=by simp;omega
  have e2:(us.zip fl).length=us.length:=by simp[vV]
  have f1:(Ov off vs.toList).length=off:=by simp;omega
  simp only[Hd,Hb]
  by_cases hj:j<off
  ·rw[Ev (by omega),G5 hj]at hc
   obtain⟨v,a1,a2,a3,a4⟩:=hold j c hc
   exact⟨v,by rw[Ev (by omega),G5 hj,Gw];exact a1,a2,a3,a4⟩
  ·rw[Ep (by omega),e1]at hc
   by_cases hj2:j<off+us.length
   ·rw[Ev (by omega)]at hc
    have dr:=List.getElem?_zip_eq_some.1 hc
    obtain⟨v,a1,a2⟩:=hr.get dr.1
    refine⟨v,by rw[Ep (by omega),f1,Ev (by omega)];exact a1,h1 v (Hf a1),a2,fun hf=>?_⟩
    have:=cQ (j-off) c.1 v dr.1 a1 (by rw[dr.2,hf])
    rw[show off+(j-off)=j from by omega]at this
    exact this
   ·rw[Ep (by omega),e2,Hw]at hc
    rw[show off+us.length+(j-off-us.length)=j from by omega]at hc
    obtain⟨v,a1,a2,a3,a4⟩:=hold j c hc
    exact⟨v,by rw[Ep (by omega),f1,Ep (by omega),Hw,show off+news.length+(j-off-news.length)=j from by omega,Gw];exact a1,a2,a3,a4⟩
theorem jc7 (us:List qa):us.zip (Ek us.length Eu)=us.map (·,Eu):=by
 induction us with
 |nil=>rfl
 |cons x us ih=>simp only[List.length_cons,Ge,List.zip_cons_cons,ih,O9]
theorem q2q (m:av P C ω w0 C0 hp w)(e:ak C ω w w0.heap.size env tmps){b r off:Nat}{cs:List (qa×Bool)}{us:List qa}{news:List Value}(hb:hp[b]?=I (.cells cs))(hr:C.β b=I r)(gw:aK C us news)(h1:∀v∈news,v.oneCell'=Eh)(hl:off+us.length≤cs.length):
  ∃vs t,w.heap[r]?=I (.cells vs t (0,0))∧off+news.length≤vs.size ∧
   av P C ω w0 C0 (hp.set b (.cells (cs.take off++us.map (·,Eu)++cs.drop (off+us.length)))) (w.setRow r (vs.toList.take off++news++vs.toList.drop (off+news.length)).toArray) ∧
   ak C ω (w.setRow r (vs.toList.take off++news++vs.toList.drop (off+news.length)).toArray) w0.heap.size env tmps:=by
 obtain⟨vs,t,hg,cB,hold⟩:=m.box b _ r hb hr
 have hu:=Gg hg (vs.toList.take off++news++vs.toList.drop (off+news.length)).toArray
 have mV:=gw.length
 refine⟨vs,t,hg,by omega,m.dv hu.ib hr _ (fun b' j y v _ h=>h) ?_,e.dh hu.ib hr⟩
 rw[←jc7]
 refine bp.store (by simp) gw h1 hl cB (fun j c hc=>?_) (fun j u v _ _ hf=>?_) (setRow_heap w r vs _ t (0,0) hg)
 ·obtain⟨v,a1,a2,a3,a4⟩:=hold j c hc
  exact⟨v,a1,a2,a3,fun h=>(a4 h).dh hu.ib hr⟩
 ·rw[List.getElem?_replicate]at hf;split at hf<;>cases hf
theorem Uh {t te:TypeId}{n r off v vs}(hn:yf P t=I n)(hl:v.cells.toList.length=n)(hg:w.heap[r]?=I (.cells vs te (0,0)))(cf:off+v.cells.toList.length≤vs.size)(h1:∀u∈v.cells.toList,u.oneCell'=Eh):
  (storeVar t ⟨r,off,En⟩ v).run P w=.ok () (w.setRow r (vs.toList.take off++v.cells.toList++vs.toList.drop (off+v.cells.toList.length)).toArray):=by
 have bO:=run_storeCells_at (P:=P) r off te v.cells.toList 0 vs w hg (by simpa using cf) h1
 simp only[Nat.add_zero]at bO
 have:¬(v.cells.size≠n):=by simp at hl;simpa using hl
 simp only[storeVar,Sem.run_bind,iX hn,Result.andThen_ok,this,if_false,Sem.run_ite,bO]
theorem jcs (m:av P C ω w0 C0 hp w)(e:ak C ω w w0.heap.size env a.tmps){t:TypeId}{x y x' y' n b q v cs dV h'}(ho:o.op=.store t x y)(hn:yf P t=I n)
  (h1:zp x=I x') (h2:zp y=I y') (e1:zc env x'=I (.ptr b q)) (e2:zc env y'=I v) (lg:ym hp b=I cs) (vS:v.flat.length=n) (bO:yj cs q v.flat=I dV) (bn:yh hp b (.cells dV)=I h'):
  ∃w',(execOp a.eval o).run P w=.ok .skip w'∧km P C0 w0 C a.tmps d env ⟨.undef,Eu,En,h'⟩ undef w':=by
 obtain⟨r,hr,hq⟩:=(zq e.bU h1 e1).cU
 unfold yj at bO
 cases hb:(Nat.ble (q+v.flat.length) cs.length&&v.flat.all zd)with
 |false=>simp[hb]at bO
 |true=>
  simp only[hb,cT,I.injEq]at bO
  simp only[N3]at hb
  subst bO
  have ry:=Ai (zq e.bU h2 e2) hb.2
  have cI:=Ak ry (by simpa using hb.2)
  obtain⟨vs,te,hg,cf,m',e'⟩:=q2q m e (vU lg) hr ry cI (Hr hb.1)
  obtain rfl:=Ar bn
  have bq:=Uh (P:=P) hn (by rw[ry.length,vS]) hg cf cI
  exact⟨_,by simp[execOp,ho,Instr.storeAt,hq,Instr.sureAddr,bq],C,ω,aA.le_refl C,m',e',.undef,by simp⟩
theorem q5w (m:av P C ω w0 C0 hp w)(e:ak C ω w w0.heap.size env a.tmps){t:TypeId}{x y:Operand}{x' y':qp}{b q s:Nat}{v:qa}{cs:List (qa×Bool)}{h':za}(ho:o.op=.store t x y)(hn:yf P t=I 1)
  (h1:zp x=I x') (h2:zp y=I y') (e1:zc env x'=I (.ptr b q)) (e2:zc env y'=I v) (lg:ym hp b=I cs) (hv:v.ct=Eh) (bh:q<cs.length) (cA:kn env y'=I s) (bn:yh hp b (.cells (cs.set q (v,Eh)))=I h'):
  ∃w',(execOp a.eval o).run P w=.ok .skip w'∧km P C0 w0 C a.tmps d env ⟨.undef,Eu,I s,h'⟩ undef w':=by
 obtain⟨r,hr,hq⟩:=(zq e.bU h1 e1).cU
 have ry:=zq e.bU h2 e2
 obtain⟨qK,v0,hl⟩:=Gj cA
 have iK:v0=v:=by subst qK;simp only[zc,hl]at e2;exact I.inj e2
 subst iK
 have jP:v0.flat=[v0]:=by cases v0<;>simp[qa.ct]at hv<;>rfl
 have hsc:zd v0=Eh:=by cases v0<;>simp[qa.ct]at hv<;>rfl
 have rf:=Ai ry (by rw[jP];simpa using hsc)
 rw[jP]at rf
 have cI:=Ak rf (by simpa using hsc)
 have dE:(a.eval y).cells.toList=[a.eval y]:=by
  have:=Ua ry hsc
  cases hh:a.eval y<;>simp[hh,Value.oneCell']at this<;>rfl
 obtain⟨cv,xC,NS,Ao⟩:=e s _ hl
 have ox:a.eval y=cv:=by
  have As:zp y=I (.tmp s):=by rw[h2,qK]
  cases y with
  |tmp t'=>simp only[zp]at As;cases As;simp[Act.eval,Gb,xC]
  |const u=>simp only[zp]at As;split at As<;>cases As
  |func f=>simp[zp]at As
  |global g=>simp[zp]at As
 obtain⟨vs,te,hg,cB,hold⟩:=m.box b _ r (vU lg) hr
 have hu:=Gg hg (vs.toList.take q++[a.eval y]++vs.toList.drop (q+1)).toArray
 have gK:(a.eval y).cells.toList.length=1:=by rw[dE];rfl
 have bq:=Uh (P:=P) (t:=t) (off:=q) hn gK hg (by omega) cI
 rw[gK,dE]at bq
 obtain rfl:=Ar bn
 have xF:=Ao rfl
 have nR:∀ℓ z u,ℓ≠.slot s→aB C ω w w0.heap.size ℓ z u→aB C (uO ω v0 cv (.cell b q)) w w0.heap.size ℓ z u:=fun ℓ z u hℓ hz=>xE xF hℓ hz
 have cQ:aB C (uO ω v0 cv (.cell b q)) w w0.heap.size (.cell b q) v0 cv:=NU xF
 have hcs:cs.take q++[(v0,Eh)]++cs.drop (q+1)=cs.set q (v0,Eh):=by
  rw[List.set_eq_take_append_cons_drop,if_pos bh];simp
 refine⟨w.setRow r (vs.toList.take q++[a.eval y]++vs.toList.drop (q+1)).toArray,by simp only[execOp,ho,Instr.storeAt,Sem.run_bind,hq,Instr.sureAddr,Sem.run_pure,Result.andThen_ok,bq],C,uO ω v0 cv (.cell b q),aA.le_refl C,?_,?_,.undef,by simp⟩
 ·refine m.dv hu.ib hr _ (fun b' j z u eL hz=>nR _ z u (by simp) hz) ?_
  rw[←hcs]
  have hz:[(v0,Eh)]=[v0].zip [Eh]:=rfl
  rw[hz]
  refine bp.store (us:=[v0]) (fl:=[Eh]) (news:=[a.eval y]) rfl (by rw[←dE];exact rf) (by rw[←dE];exact cI) (by simp;omega) cB (fun j c hc=>?_) (fun j u v Gv nO _=>?_) (setRow_heap w r vs _ te (0,0) hg)
  ·obtain⟨v,a1,a2,a3,a4⟩:=hold j c hc
   exact⟨v,a1,a2,a3,fun h=>(nR _ _ _ (by simp) (a4 h)).dh hu.ib hr⟩
  ·cases j with
   |zero=>
    simp at Gv nO
    subst Gv;subst nO
    have h3:=cQ.dh hu.ib hr
    exact ox▸h3
   |succ j=>simp at Gv
 ·intro t' x' eK
  by_cases lD:t'=s
  ·subst lD
   simp only[gq,hl,yd,Nat.beq_refl,cT]at eK
   cases eK
   exact⟨cv,xC,NS,by simp⟩
  ·have ie:yd t' env=I x':=by
    simp only[gq,hl,yd]at eK
    have:G9 s t'=Eu:=by
     cases hb:G9 s t' with
     |false=>rfl
     |true=>exact absurd (Ga hb).symm lD
    rw[this]at eK
    exact eK
   obtain⟨u,k1,k2,k3⟩:=e t' x' ie
   exact⟨u,k1,k2,fun h=>(nR _ _ _ (by simp[lD]) (k3 h)).dh hu.ib hr⟩
end
section
variable {P:Program}{C C0:aA}{ω:Nat→Option Loc}{w w' w0:World}{hp:za}{env:Env}{a:Act}{o:Oper}{tmps:Array Value}{d:Loc}
theorem q13 {s v ow}(hl:yd s env=I (v,ow)){t x}(hx:yd t (gq env (I s))=I x):(t=s∧x=(v,Eu))∨(t≠s∧yd t env=I x):=by
 simp only[gq,hl,yd]at hx
 cases hb:G9 s t with
 |true=>
  simp only[hb,cT,I.injEq]at hx
  exact .inl ⟨(Ga hb).symm,hx.symm⟩
 |false=>
  simp only[hb,cond_false]at hx
  refine .inr ⟨fun h=>?_,hx⟩
  subst h
  simp at hb
theorem jf7 (m:av P C ω w0 C0 hp w)(e:ak C ω w w0.heap.size env a.tmps){s v ow}(ho:o.op=.move (.tmp s)∨o.op=.assign (.tmp s))(hl:yd s env=I (v,ow)):
  ∃u w',(execOp a.eval o).run P w=.ok (.value u) w'∧km P C0 w0 C a.tmps d env ⟨v,ow,I s,hp⟩ u w':=by
 obtain⟨cv,h1,h2,h3⟩:=e s _ hl
 have gA:a.eval (.tmp s)=cv:=by simp[Act.eval,Gb,h1]
 have bq:(execOp a.eval o).run P w=.ok (.value cv) w:=by rcases ho with ho|ho<;>simp[execOp,ho,gA]
 refine⟨cv,w,bq,?_⟩
 by_cases hk:ow=Eh
 ·subst hk
  have cA:=h3 rfl
  refine⟨C,uO ω v cv d,aA.le_refl C,?_,?_,h2,fun _=>NU cA⟩
  ·exact { m with box:=fun b x r hx hb=>(m.box b x r hx hb).mono (aA.le_refl C) fun j y u hz=>xE cA (by simp) hz }
  ·intro t x hx
   rcases q13 hl hx with⟨rfl,rfl⟩|⟨bu,eK⟩
   ·exact⟨cv,h1,h2,by simp⟩
   ·obtain⟨u,k1,k2,k3⟩:=e t x eK
    exact⟨u,k1,k2,fun h=>xE cA (by simpa using bu) (k3 h)⟩
 ·refine⟨C,ω,aA.le_refl C,m,e.strip _,h2,fun h=>absurd h hk⟩
theorem q4m (m:av P C ω w0 C0 hp w)(e:ak C ω w w0.heap.size env a.tmps){t:TypeId}{x x' b q v ow cs h'}(ho:o.op=.load t x)(cK:fh P t=I Eu)
  (h1:zp x=I x') (e1:zc env x'=I (.ptr b q)) (lg:ym hp b=I cs) (hc:cs[q]?=I (v,ow)) (bn:yh hp b (.cells (cs.set q (v,Eu)))=I h'):
  ∃u w',(execOp a.eval o).run P w=.ok (.value u) w'∧km P C0 w0 C a.tmps d env ⟨v,ow,En,h'⟩ u w':=by
 obtain⟨r,hr,hq⟩:=(zq e.bU h1 e1).cU
 obtain⟨vs,te,hg,cB,hold⟩:=m.box b _ r (vU lg) hr
 obtain⟨cv,k1,k2,k3,k4⟩:=hold q _ hc
 obtain rfl:=Ar bn
 have dE:w.cell? ⟨r,q,En⟩=I cv:=by
  simp only[World.cell?,hg]
  simpa using k1
 have bq:(execOp a.eval o).run P w=.ok (.value cv) w:=by
  simp[execOp,ho,hq,Instr.loadAt,Instr.sureAddr,Gq cK dE]
 have hu:jk w w r:=⟨rfl,fun _ _=>rfl,fun c t fr h=>by rw[hg]at h;cases h;rfl,rfl,rfl⟩
 have ga:∀ω':Nat→Option Loc,(∀j c u,j≠q→aB C ω w w0.heap.size (.cell b j) c u→aB C ω' w w0.heap.size (.cell b j) c u)→bp P C ω' w w0.heap.size b r (.cells (cs.set q (v,Eu))):=by
  intro ω' hk
  refine⟨vs,te,hg,by simpa using cB,fun j c hj=>?_⟩
  rw[List.getElem?_set]at hj
  split at hj
  ·rename_i Ui
   subst Ui
   split at hj
   ·cases hj;exact⟨cv,k1,k2,k3,by simp⟩
   ·cases hj
  ·rename_i Ui
   obtain⟨u,a1,a2,a3,a4⟩:=hold j c hj
   exact⟨u,a1,a2,a3,fun h=>hk _ _ _ (Ne.symm Ui) (a4 h)⟩
 refine⟨cv,w,bq,?_⟩
 by_cases hk:ow=Eh
 ·subst hk
  have cA:=k4 rfl
  refine⟨C,uO ω v cv d,aA.le_refl C,?_,?_,k3,fun _=>NU cA⟩
  ·exact m.dv hu hr _ (fun b' j y u eL hz=>xE cA (by simp[eL]) hz) (ga _ fun j c u hj hz=>xE cA (by simp[hj]) hz)
  ·exact fun t x hx=>let ⟨u,k1,k2,k3⟩:=e t x hx; ⟨u,k1,k2,fun h=>xE cA (by simp) (k3 h)⟩
 ·refine⟨C,ω,aA.le_refl C,m.dv hu hr _ (fun _ _ _ _ _ h=>h) (ga _ fun _ _ _ _ h=>h),e,k3,fun h=>absurd h hk⟩
end
end Go.Abs
