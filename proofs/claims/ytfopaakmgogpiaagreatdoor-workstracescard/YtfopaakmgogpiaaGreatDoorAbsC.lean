/- Operations that make a new slice. -/
import Derived.Test.YtfopaakmgogpiaaGreatDoorAbsB
set_option linter.unusedVariables false
set_option linter.unusedSimpArgs false
open Option renaming some→I,none→En,isSome_iff_exists→I6
open Bool renaming true→Eh,false→Ev,false_eq_true→M2,and_eq_true→Oi
open List renaming replicate→El,getElem?_append_right→Eo,getElem?_append_left→E5,replicate_succ→Gb,getElem?_eq_some_iff→Gi,getElem?_eq_getElem→Gl,getElem?_take_of_lt→Gm,mem_replicate→Gn,flatten_cons→Gx,append_assoc→Ha,getElem?_set_self→Hb,getElem?_toArray→Ht,mem_of_getElem?→Hv,getElem?_of_mem→If,getElem?_set_ne→Ip,mem_append→Iu,mem_map→I7,length_set→I8,getElem?_eq_none→I9,length_append→Nr,getElem?_drop→Od,getElem?_map→Og,flatMap_cons→Oh,all_eq_true→Oj,mem_flatten→Ok,length_map→Sc,mem_cons→Sl,take→St,map_cons→S5
open Nat renaming eq_of_beq_eq_true→E6,le_refl→Ga,beq→Gp,add_mul→Ml,le_of_ble_eq_true→My,mul_le_mul_right→M1,le_trans→Oe,mul_eq_zero→R2,mul_le_mul→Si
open Array renaming getD_eq_getD_getElem?→E7,getElem?_toList→Gc,getElem?_eq_some_iff→Gh,range→Gk,ext'→Sg
namespace Go.Abs
section
variable {P:Program}{C C0:ax}{ω:Nat→Option Loc}{w w0:World}{hp:j8}{env:Env}{a:Act}{o:Oper}{tmps:Array Value}{d:Loc}
theorem ai.strip {B:Nat}(e:ai C ω w B env tmps)(s:Option Nat):ai C ω w B (gy env s) tmps:=by
 cases s with
 |none=>exact e
 |some s=>
  simp only[gy]
  split
  ·rename_i v o hl
   intro t x hx
   simp only[ye]at hx
   cases hb:Gp s t with
   |false=>rw[hb]at hx;simp at hx;exact e t x hx
   |true=>
    rw[hb]at hx
    simp at hx
    subst hx
    obtain rfl:=E6 hb
    obtain⟨u,h1,h2,_⟩:=e s _ hl
    exact⟨u,h1,h2,by simp⟩
  ·exact e
theorem q2b (m:av P C ω w0 C0 hp w)(e:ai C ω w w0.heap.size env tmps){x:qa}{v:Value}(h:bC C x v):kj P C0 w0 C tmps d env ⟨x,Ev,En,hp⟩ v w:=
 ⟨C,ω,ax.le_refl C,m,e,h,by simp⟩
theorem Mr (m:av P C ω w0 C0 hp w)(e:ai C ω w w0.heap.size env tmps)(cells:Array Value)(t:TypeId)(xs:List qa)(sz cap:Nat)(vs:List Value)(hr:aK C (xs.flatMap qa.flat) vs)
  (hv:∀(j:Nat) v,vs[j]?=I v→cells[j]?=I v) (h1:∀v∈vs,v.oneCell'=Eh) (hs:∀x∈xs,x.flat.length=sz) (hcap:xs.length≤cap) (cf:cap*sz≤cells.size) (s:Option Nat):
  kj P C0 w0 C tmps d env ⟨.list Ev sz xs,Eh,s,hp⟩ (.slice (I ⟨w.heap.size,0,En⟩) xs.length cap) (w.alloc (.cells cells t)):=by
 have hn:∀o,C.K w.heap.size o=En:=m.jD _ (Ga _)
 have hx:Ext w (w.alloc (.cells cells t)):=Ext.alloc w _ (fun c t fr h=>by cases h;rfl)
 have m1:=(m.newRow cells t vs hv h1)
 have Sp:∀ℓ x v,aC C ω w w0.heap.size ℓ x v→aC (C.put w.heap.size 0 vs) (ct ω w.heap.size d) (w.alloc (.cells cells t)) w0.heap.size ℓ x v:=fun ℓ x v ho=>((ho.fresh (Ga _)).put vs (.inl (Ga _))).ext hx
 have hle:=ax.fZ (C:=C) (off:=0) vs (fun o _=>hn o)
 have hcells:=ax.eL (C:=C) (off:=0) (fun o _=>hn o) hr
 have hl:vs.length=xs.length*sz:=by rw[hr.length,lm xs hs]
 refine⟨C.put w.heap.size 0 vs,ct ω w.heap.size d,hle,?_,?_,?_,?_⟩
 ·exact { m1 with box:=fun b x r eM hb=>((m.box b x r eM hb).mono hle fun j y v ho=>(ho.fresh (Ga _)).put vs (.inl (Ga _))).ext hx }
 ·refine ai.strip ?_ s
  exact fun t x hx=>let ⟨v,h1,h2,h3⟩:=e t x hx; ⟨v,h1,qp.mono hle h2,fun h=>Sp _ _ _ (h3 h)⟩
 ·exact .list _ _ _ _ _ hcap (aX.et hcells hs)
 ·intro _
  refine⟨by simp[ct],.inl m.size,?_,rfl,rfl,⟨cells,t,by rw[vD,if_pos rfl],by simpa using cf,eu.sized hs⟩,?_⟩
  ·intro b hb
   have:=(m.lt b _ hb).1
   simp at this
  ·intro o ho
   simp only[ax.put]
   rw[if_neg (by simp at ho;omega)]
   exact hn o
theorem Ms {zs:List Value}{sz:Nat}(hz:zs.length=sz)(hs:0<sz):∀(n:Nat),(List.range (n*sz)).map (fun i=>zs.toArray[i % zs.toArray.size]!)=(El n zs).flatten
 |0=>by simp
 |n+1=>by
  rw[Nat.succ_mul,List.range_add,List.map_append,Ms hz hs n,List.replicate_succ',List.flatten_append]
  congr 1
  simp only[List.map_map,Gx,List.flatten_nil,List.append_nil]
  apply List.ext_getElem?
  intro j
  rw[Og]
  by_cases hj:j<sz
  ·rw[List.getElem?_range hj]
   simp only[Option.map_some,Function.comp,List.size_toArray,hz]
   rw[Nat.mul_add_mod_self_right,Nat.mod_eq_of_lt hj]
   rw[Gl (by omega),getElem!_pos _ _ (by simpa[hz]using hj)]
   simp
  ·rw[I9 (by simpa using hj),I9 (by omega)]
   rfl
theorem aK.replicate {zs:List qa}{vs:List Value}(h:aK C zs vs):∀n:Nat,aK C (El n zs).flatten (El n vs).flatten
 |0=>.nil
 |n+1=>by
  rw[Gb,Gb,Gx,Gx]
  exact aK.append h (aK.replicate h n)
def um (sz:Nat)(zero:List qa):qa:=bif Gp sz 1 then zero.headD .undef else .agg zero
theorem Sr {sz:Nat}{zero:List qa}(hz:zero.length=sz)(hs:∀z∈zero,z.isAgg=Ev):(um sz zero).flat=zero:=by
 unfold um
 cases hb:Gp sz 1 with
 |false=>rfl
 |true=>
  obtain rfl:=E6 hb
  obtain⟨z,rfl⟩:=List.length_eq_one_iff.1 hz
  exact qcl (hs z (by simp))
theorem qno {sz:Nat}{zero:List qa}(hz:zero.length=sz)(hs:∀z∈zero,z.isAgg=Ev)(n:Nat):(El n (um sz zero)).flatMap qa.flat=(El n zero).flatten:=by
 induction n with
 |zero=>rfl
 |succ n ih=>rw[Gb,Oh,Sr hz hs,ih,Gb,Gx]
theorem q0r {v:Value}{x:qa}(h:Di v=I x):ze x=Eh∧v.oneCell'=Eh:=by
 unfold Di at h
 split at h<;>first|cases h|skip
 all_goals exact⟨rfl,rfl⟩
theorem qob:∀ {vs:List Value} {xs:List qa},vC vs=I xs→(∀x∈xs,ze x=Eh)∧∀v∈vs,v.oneCell'=Eh
 | [],xs,h=>by simp[vC]at h;subst h;simp
 |v::vs,xs,h=>by
  simp only[vC]at h
  split at h
  ·rename_i x hx
   split at h
   ·rename_i ys mF
    cases h
    obtain⟨h1,h2⟩:=q0r hx
    obtain⟨h3,h4⟩:=qob mF
    exact⟨by simpa using⟨h1,h3⟩,by simpa using⟨h2,h4⟩⟩
   ·cases h
  ·cases h
theorem qm5 {x:qa}(h:ze x=Eh):x.isAgg=Ev:=by cases x<;>simp[ze,qa.isAgg]at *
theorem uo {t:TypeId}{z:List qa}(h:ek P t=I z):(∀x∈z,ze x=Eh)∧∃v,(∀w,(zeroValue t).run P w=.ok v w)∧aK C z v.cells.toList∧∀u∈v.cells.toList,u.oneCell'=Eh:=by
 unfold ek at h
 split at h
 ·rename_i i hi
  split at h
  ·rename_i v hv
   obtain⟨h1,h2⟩:=qob h
   exact⟨h1,v,fun w=>by simp[zeroValue,typeInfo,hi,hv],Mg C h,h2⟩
  ·cases h
 ·cases h
theorem Ss {x:qa}{v:Value}(h:bC C x v)(hs:ze x=Eh):v.oneCell'=Eh:=by
 cases h<;>first|rfl|(simp[ze]at hs)
theorem zM {xs:List qa}:∀ {vs:List Value},aK C xs vs→(∀x∈xs,ze x=Eh)→∀v∈vs,v.oneCell'=Eh:=by
 induction xs with
 |nil=>intro vs h _ v hv;cases h;cases hv
 |cons x xs ih=>
  intro vs h hs v hv
  cases h with
  |cons _ _ u us hx h=>
   rcases Sl.1 hv with rfl|hv
   ·exact Ss hx (hs x (by simp))
   ·exact ih h (fun y hy=>hs y (by simp[hy])) v hv
theorem qzs:∀ (qs:List (Nat×List qa)) (xs ys:List qa),jC xs qs=I ys→(∀x∈xs,ze x=Eh)→(∀q∈qs,∀x∈q.2,ze x=Eh)→∀y∈ys,ze y=Eh
 | [],xs,ys,h,hx,_=>by simp[jC]at h;subst h;exact hx
 |(off,vs)::qs,xs,ys,h,hx,hq=>by
  simp only[jC]at h
  cases hb:Nat.ble (off+vs.length) xs.length with
  |false=>simp[hb]at h
  |true=>
   simp only[hb,cT]at h
   refine qzs qs _ ys h ?_ (fun q h=>hq q (by simp[h]))
   intro x h
   simp only[Iu]at h
   rcases h with(h|h)|h
   ·exact hx x (List.mem_of_mem_take h)
   ·exact hq (off,vs) (by simp) x h
   ·exact hx x (List.mem_of_mem_drop h)
theorem qkr {sz:Nat}:∀(ps:List (Nat×qf)) (qs:List (Nat×qa)),iF env sz ps=I qs→∀q∈qs,∀x∈q.2.flat,ze x=Eh
 | [],qs,h=>by simp[iF]at h;subst h;simp
 |(i,x)::ps,qs,h=>by
  simp only[iF]at h
  split at h
  ·rename_i v nx
   cases hb:(Gp v.flat.length sz&&v.flat.all ze)with
   |false=>simp[hb]at h
   |true=>
    simp only[hb,cT]at h
    simp only[Oi,Oj]at hb
    split at h
    ·rename_i r hr
     cases h
     intro q hq
     rcases Sl.1 hq with rfl|hq
     ·exact hb.2
     ·exact qkr ps r hr q hq
    ·cases h
  ·cases h
theorem qon (e:ai C ω w w0.heap.size env a.tmps){t el:TypeId}{ps:Array (Nat×Operand)}{len sz:Nat}{z:List qa}{ft:List (Nat×qf)}{qs:List (Nat×qa)}{xs:List qa}
  (ho:o.op=.buildSlice t len ps) (ht:P.underlying t=I (.slice el)) (hn:yh P el=I sz) (hz:ek P el=I z) (hlen:sz*len≤65536) (h0:0<sz) (gP:z.length=sz)
  (lT:wZ ps.toList=I ft) (hq:iF env sz ft=I qs) (hx:lb (El len (um sz z)) qs=I xs):
  ∃ds,(execOp a.eval o).run P w=.ok (.value (.slice (I ⟨w.heap.size,0,En⟩) len len)) (w.alloc (.cells ds el))∧aK C (xs.flatMap qa.flat) ds.toList∧(∀v∈ds.toList,v.oneCell'=Eh)∧(∀x∈xs,x.flat.length=sz)∧xs.length=len∧len*sz≤ds.size:=by
 obtain⟨pJ,zv,kQ,cw,lj⟩:=uo (C:=C) hz
 have xf:∀x∈z,x.isAgg=Ev:=fun x h=>qm5 (pJ x h)
 have mH:zv.cells.toList.length=sz:=by rw[cw.length,gP]
 have jF:((Gk (len*sz)).map (fun i=>zv.cells[i % zv.cells.size]!)).toList=(El len zv.cells.toList).flatten:=by
  have:=Ms mH h0 len
  simpa using this
 obtain⟨pM,hqs⟩:=qp1 e.bU ps.toList ft qs lT hq
 obtain⟨hf,oR,mG⟩:=qxn (sz:=sz) qs _ xs hx (by
  intro x h
  obtain⟨_,rfl⟩:=Gn.1 h
  rw[Sr gP xf,gP]) hqs
 rw[qno gP xf]at hf
 obtain⟨ds,hd,hdr⟩:=Mq _ _ _ _ ((Gk (len*sz)).map (fun i=>zv.cells[i % zv.cells.size]!)) (by rw[jF];exact cw.replicate len) hf pM
 have jG:xs.length=len:=by simpa using mG
 have hsc:∀y∈xs.flatMap qa.flat,ze y=Eh:=qzs _ _ _ hf (by
  intro x h
  rw[Ok]at h
  obtain⟨l,h1,h2⟩:=h
  obtain⟨_,rfl⟩:=Gn.1 h1
  exact pJ x h2) (by
  intro q hq1 x Dt
  obtain⟨p,jH,rfl⟩:=I7.1 hq1
  exact qkr ft qs hq p jH x Dt)
 have zN:ds.toList.length=len*sz:=by rw[hdr.length,lm xs oR,jG]
 refine⟨ds,?_,hdr,zM hdr hsc,oR,jG,by simp at zN;omega⟩
 ·have ul:(ps.map fun(x:Nat×Operand)=>(x.1,a.eval x.2)).toList=ps.toList.map fun x=>(x.1,a.eval x.2):=by simp
  have hle:¬(16777216<len*sz):=by rw[Nat.mul_comm];omega
  by_cases Fe:len=0
  ·subst Fe
   have hr:Gk 0=#[]:=rfl
   rw[Nat.zero_mul,hr,Array.map_empty]at hd
   simp only[execOp,ho,Instr.buildSlice,Sem.run_bind,run_underlying ht,Result.andThen_ok,iT hn,ul]
   simp[hr,hd,newRow]
  ·have br:¬(len*sz=0):=by
    intro h
    rcases R2.1 h with h|h<;>omega
   simp only[execOp,ho,Instr.buildSlice,Sem.run_bind,run_underlying ht,Result.andThen_ok,iT hn,ul]
   simp[hle,br,kQ,hd,newRow]
theorem qyk (m:av P C ω w0 C0 hp w)(e:ai C ω w w0.heap.size env a.tmps){t el:TypeId}{ps:Array (Nat×Operand)}{len sz:Nat}{z:List qa}{ft:List (Nat×qf)}{qs:List (Nat×qa)}{xs:List qa}
  (ho:o.op=.buildSlice t len ps) (ht:P.underlying t=I (.slice el)) (hn:yh P el=I sz) (hz:ek P el=I z) (hlen:sz*len≤65536) (h0:0<sz) (gP:z.length=sz)
  (lT:wZ ps.toList=I ft) (hq:iF env sz ft=I qs) (hx:lb (El len (um sz z)) qs=I xs):
  ∃v w',(execOp a.eval o).run P w=.ok (.value v) w'∧kj P C0 w0 C a.tmps d env ⟨.list Ev sz xs,Eh,En,hp⟩ v w':=by
 obtain⟨ds,bn,hdr,h1,oR,jG,cf⟩:=qon (C:=C) (ω:=ω) (w:=w) (w0:=w0) e ho ht hn hz hlen h0 gP lT hq hx
 refine⟨_,_,bn,?_⟩
 have ez:=Mr (d:=d) (tmps:=a.tmps) m e ds el xs sz len ds.toList hdr (by intro j v h;simpa using h) h1 oR (by omega) cf En
 rw[jG]at ez
 exact ez
theorem q5j (m:av P C ω w0 C0 hp w)(e:ai C ω w w0.heap.size env a.tmps){t el:TypeId}{x y:Operand}{x' y':qf}{n sz b:Nat}{z:List qa}
  (ho:o.op=.makeSlice t x y) (ht:P.underlying t=I (.slice el)) (hn:yh P el=I sz) (hb:nq P el=I b) (hz:ek P el=I z) (h0:0<sz) (gP:z.length=sz)
  (h1:zr x=I x') (h2:zr y=I y') (e1:zd env x'=I (.int .i64 (n:Int))) (e2:zd env y'=I (.int .i64 (n:Int))) (hle:n≤1073741824) (iU:b≤4096):
  ∃v w',(execOp a.eval o).run P w=.ok (.value v) w'∧kj P C0 w0 C a.tmps d env ⟨.list Ev sz (El n (um sz z)),Eh,En,hp⟩ v w':=by
 obtain⟨pJ,zv,kQ,cw,lj⟩:=uo (C:=C) hz
 have xf:∀x∈z,x.isAgg=Ev:=fun x h=>qm5 (pJ x h)
 have mH:zv.cells.toList.length=sz:=by rw[cw.length,gP]
 have jF:((Gk (n*sz)).map (fun i=>zv.cells[i % zv.cells.size]!)).toList=(El n zv.cells.toList).flatten:=by
  have:=Ms mH h0 n
  simpa using this
 have r1:=(zt e.bU h1 e1).bF
 have r2:=(zt e.bU h2 e2).bF
 have oR:∀x∈El n (um sz z),x.flat.length=sz:=by
  intro x h
  obtain⟨_,rfl⟩:=Gn.1 h
  rw[Sr gP xf,gP]
 have fI:aK C ((El n (um sz z)).flatMap qa.flat) ((Gk (n*sz)).map (fun i=>zv.cells[i % zv.cells.size]!)).toList:=by
  rw[qno gP xf,jF];exact cw.replicate n
 obtain⟨i,hi,pN⟩:∃i,P.info? el=I i∧i.bytes=b:=by
  unfold nq at hb
  cases hi:P.info? el with
  |none=>simp[hi]at hb
  |some i=>exact⟨i,rfl,by simpa[hi]using hb⟩
 have jX:i.size=sz:=by
  unfold yh at hn
  rw[hi]at hn
  simpa using hn
 have pO:IntKind.i64.wrap (n:Int)=n:=by
  rw[←zI];unfold j9
  have:pE .i64 (n:Int)=Eh:=by simp[pE];exact Oe hle (by decide)
  rw[this];rfl
 have zG:b*n≤281474976710656:=Oe (Si iU hle) (by decide)
 have ez:=Mr (d:=d) (tmps:=a.tmps) m e ((Gk (n*sz)).map (fun i=>zv.cells[i % zv.cells.size]!)) el (El n (um sz z)) sz n _ fI (by intro j v h;rw[Gc]at h;exact h) (by
   rw[jF]
   intro v hv
   rw[Ok]at hv
   obtain⟨l,q1,q2⟩:=hv
   obtain⟨_,rfl⟩:=Gn.1 q1
   exact lj v q2) oR (by simp) (by simp) En
 rw[List.length_replicate]at ez
 refine⟨_,_,?_,ez⟩
 have c1:¬((b:Int)*(n:Int) > 2^48):=by
  have h1:((b*n:Nat):Int)≤281474976710656:=Int.ofNat_le.2 zG
  rw[Int.natCast_mul]at h1
  have h2:(2:Int)^48=281474976710656:=by decide
  rw[h2];omega
 have c2:¬((n:Int)<0):=by omega
 have hr:Gk 0=#[]:=rfl
 simp only[execOp,ho,Instr.makeSlice,Sem.run_bind,run_underlying ht,r1,r2,asInt,asIntOf,Sem.run_pure,Result.andThen_ok,typeInfo,run_program,hi,pN,pO,c2,c1,decide_false,Bool.or_false,M2,if_false,Int.lt_irrefl,gt_iff_lt,run_askRoom,Int.toNat_natCast,iT hn,newRow]
 by_cases zJ:n=0
 ·subst zJ
  simp[hr]
 ·have br:¬(n*sz=0):=by
   intro h
   rcases R2.1 h with h|h<;>omega
  simp[br,kQ]
end
structure jn (w w':World)(r:Nat)(cs:Array Value):Prop where
 at_:∃t,w'.heap[r]?=I (.cells cs t (0,0))
 size:w'.heap.size=w.heap.size
 other:∀k,k≠r→w'.heap[k]?=w.heap[k]?
 os:w'.os=w.os
 output:w'.output=w.output
theorem Ff {w:World}{r:Nat}{old:Array Value}{t:TypeId}(h:w.heap[r]?=I (.cells old t (0,0)))(cs:Array Value):jn w (w.setRow r cs) r cs:=
 ⟨⟨t,setRow_heap w r old cs t (0,0) h⟩,setRow_size w r cs,fun k hk=>setRow_other w r k cs hk,rfl,rfl⟩
section
variable {P:Program}{C C0:ax}{ω:Nat→Option Loc}{w w' w0:World}{hp:j8}{env:Env}{a:Act}{o:Oper}{tmps:Array Value}{d:Loc}
theorem aC.ie {B r:Nat}{cs:Array Value}{ℓ:Loc}{x:qa}{v:Value}(hu:jn w w' r cs)(hr:ω r≠I ℓ)(ho:aC C ω w B ℓ x v):aC C ω w' B ℓ x v:=by
 unfold aC at *
 split at ho
 ·rename_i a len cap
  obtain⟨h1,h2,h3,h4,h8,⟨cells,elem,h5,h6⟩,h7⟩:=ho
  refine⟨h1,h2,h3,h4,h8,⟨cells,elem,?_,h6⟩,h7⟩
  rw[hu.other _ (fun h=>hr (h▸h1))]
  exact h5
 ·rename_i a
  obtain⟨h1,h2,h3,h4,h8,⟨cells,elem,h5,h6⟩,h7⟩:=ho
  refine⟨h1,h2,h3,h4,h8,⟨cells,elem,?_,h6⟩,h7⟩
  rw[hu.other _ (fun h=>hr (h▸h1))]
  exact h5
 ·trivial
theorem bm.ie {B b r r':Nat}{cs:Array Value}{x:qm}(hu:jn w w' r cs)(br:r'≠r)(hr:∀j,ω r≠I (.cell b j))(hb:bm P C ω w B b r' x):bm P C ω w' B b r' x:=by
 have hg:=hu.other r' br
 cases x with
 |hole=>exact hb
 |cells dX=>
  obtain⟨vs,elem,h1,h2,h3⟩:=hb
  exact⟨vs,elem,by rw[hg];exact h1,h2,fun j c hc=>let ⟨v,a,q,b,d⟩:=h3 j c hc; ⟨v,a,q,b,fun e=>(d e).ie hu (hr j)⟩⟩
 |map es=>obtain⟨bQ,clock,h1,h2⟩:=hb;exact⟨bQ,clock,by rw[hg];exact h1,h2⟩
 |iter s pos=>show w'.heap[r']?=_;rw[hg];exact hb
 |loop l=>obtain⟨lp,h1,h2⟩:=hb;exact⟨lp,by rw[hg];exact h1,h2⟩
 |fD t e l=>obtain⟨p,v,h1,h2,h3,h4⟩:=hb;exact⟨p,v,by rw[hg];exact h1,h2,h3,h4.ie hu (hr 1)⟩
 |dead=>obtain⟨cs,t,h1⟩:=hb;exact⟨cs,t,by rw[hg];exact h1⟩
 |vec sz bu xs=>exact dI.imp (fun _ _ _ h=>h) (fun _ h=>h) (fun _ h _=>h) hg (fun q n cap k=>⟨hu.other q (fun hq=>hr 0 (hq▸k.1)),k.ie hu (hr 0)⟩) hb
theorem qxy (m:av P C ω w0 C0 hp w)(e:ai C ω w w0.heap.size env tmps){r q:Nat}{cells:Array Value}{t:TypeId}{news:List Value}{s:Nat}(hω:ω r=I (.slot s))(hB:w0.heap.size≤r∨C.W r)(hβ:∀b,C.β b≠I r)
  (hg:w.heap[r]?=I (.cells cells t (0,0))) (cf:q+news.length≤cells.size) (hK:∀o,q≤o→C.K r o=En) (h1:∀v∈news,v.oneCell'=Eh):
  av P (C.put r q news) (ct ω r d) w0 C0 hp (w.setRow r (cells.toList.take q++news++cells.toList.drop (q+news.length)).toArray) ∧
  ai (C.put r q news) (ct ω r d) (w.setRow r (cells.toList.take q++news++cells.toList.drop (q+news.length)).toArray) w0.heap.size (gy env (I s)) tmps∧C.le (C.put r q news):=by
 have hu:=Ff hg (cells.toList.take q++news++cells.toList.drop (q+news.length)).toArray
 generalize Sv:w.setRow r (cells.toList.take q++news++cells.toList.drop (q+news.length)).toArray=w' at hu
 have hle:=ax.fZ (C:=C) (off:=q) news hK
 have cB:∀ℓ x v,ℓ≠.slot s→aC C ω w w0.heap.size ℓ x v→aC (C.put r q news) (ct ω r d) w' w0.heap.size ℓ x v:=by
  intro ℓ x v hℓ ho
  have br:ω r≠I ℓ:=by rw[hω];intro h;exact hℓ (I.inj h).symm
  have h2:aC (C.put r q news) ω w' w0.heap.size ℓ x v:=(ho.put news (.inr br)).ie hu br
  exact h2.other (.inl br)
 refine⟨?_,?_,hle⟩
 ·have Fg:=hu.size
  refine { base:=m.base,know:=?_,cP:=?_,apart:=?_,inj:=m.inj,lt:=?_,size:=?_,frame:=?_,eQ:=?_,os:=hu.os.trans m.os,output:=hu.output.trans m.output,fresh:=m.fresh,grown:=ax.le_trans m.grown hle,old:=?_,box:=?_,hH:=fun q hq=>by rw[hu.size];exact m.hH q hq }
  ·intro b p v hk
   simp only[ax.put]at hk
   split at hk
   ·rename_i hc
    obtain⟨rfl,h2,h3⟩:=hc
    obtain⟨t',Fh⟩:=hu.at_
    simp only[World.cell?,Fh]
    rw[Ht,Ha,Eo (by simp;omega),E5 (by simp;omega)]
    have:(St q cells.toList).length=q:=by simp;omega
    rw[this]
    simpa using hk
   ·by_cases hb:b=r
    ·subst hb
     have aY:p<q:=by
      rcases Nat.lt_or_ge p q with h|h
      ·exact h
      ·rw[hK p h]at hk;cases hk
     have hc:=m.know _ _ _ hk
     obtain⟨t',Fh⟩:=hu.at_
     simp only[World.cell?,hg]at hc
     simp only[World.cell?,Fh]
     simp only[Option.isSome_none,M2,if_false]at hc ⊢
     rw[Ht,Ha,E5 (by simp;omega),Gm aY,Gc]
     exact hc
    ·have hc:=m.know _ _ _ hk
     simp only[World.cell?]at hc ⊢
     rw[hu.other b hb]
     exact hc
  ·intro b p v hk
   simp only[ax.put]at hk
   split at hk
   ·exact h1 v (Hv hk)
   ·exact m.cP b p v hk
  ·intro b p o hb
   simp only[ax.put]
   rw[if_neg]
   ·exact m.apart b p o hb
   ·rintro ⟨rfl,_⟩;exact hβ b hb
  ·intro b p hb
   rw[Fg];exact m.lt b p hb
  ·rw[Fg];exact m.size
  ·intro k hk hn hw
   have gQ:k≠r:=fun h=>by
    subst h
    rcases hB with h|h
    ·omega
    ·rw[m.grown.w]at h;exact hw h
   rw[hu.other k gQ];exact m.frame k hk hn hw
  ·intro k hk
   have gQ:k≠r:=fun h=>by
    subst h
    have:=m.eQ k hk
    rw[hg]at this;cases this
   rw[hu.other k gQ];exact m.eQ k hk
  ·intro k o hk hw
   have gQ:k≠r:=fun h=>by
    subst h
    rcases hB with h|h
    ·omega
    ·rw[m.grown.w]at h;exact hw h
   simp only[ax.put]
   rw[if_neg (by rintro ⟨h,_⟩;exact gQ h)]
   exact m.old k o hk hw
  ·intro b x p hx hb
   have br:p≠r:=fun h=>hβ b (h▸hb)
   have uq:=m.box b x p hx hb
   have kT:bm P C ω w' w0.heap.size b p x:=uq.ie hu br (fun j=>by rw[hω];simp)
   refine kT.mono hle fun j y v ho=>?_
   have ln:ω r≠I (.cell b j):=by rw[hω];simp
   exact(ho.put news (.inr ln)).other (.inl ln)
 ·intro t x hx
  have hlk:∃v o,ye s env=I (v,o)∨ye s env=En:=by
   cases h:ye s env with
   |none=>exact⟨.undef,Ev,.inr rfl⟩
   |some x=>exact⟨x.1,x.2,.inl rfl⟩
  by_cases lq:t=s
  ·subst lq
   simp only[gy]at hx
   cases hl:ye t env with
   |none=>rw[hl]at hx;simp only[hl]at hx;cases hx
   |some y=>
    rw[hl]at hx
    simp only[ye,Nat.beq_refl,cT]at hx
    cases hx
    obtain⟨v,h2,h3,_⟩:=e t y hl
    exact⟨v,h2,qp.mono hle h3,by simp⟩
  ·have eM:ye t env=I x:=by
    simp only[gy]at hx
    cases hl:ye s env with
    |none=>rw[hl]at hx;exact hx
    |some y=>
     rw[hl]at hx
     simp only[ye]at hx
     have:Gp s t=Ev:=by
      cases hb:Gp s t with
      |false=>rfl
      |true=>exact absurd (E6 hb).symm lq
     rw[this]at hx
     exact hx
   obtain⟨v,h2,h3,h4⟩:=e t x eM
   exact⟨v,h2,qp.mono hle h3,fun h=>cB _ _ _ (by simp[lq]) (h4 h)⟩
theorem Sw {t tx ty e:TypeId}{i:TypeInfo}(ht:P.underlying t=I (.slice e))(hi:P.info? e=I i)(r off mI zO:Nat)(x:Value)(n:Nat)(news:List Value)(hs:Src P i.size tx x n news w)(dU:mI+n≤zO)
  {cells:Array Value} {te:TypeId} (hg:w.heap[r]?=I (.cells cells te (0,0))) (cf:off+mI*i.size+news.length≤cells.size):
  (Builtin.append_ #[t,tx] ty #[.slice (I ⟨r,off,En⟩) mI zO,x]).run P w =
   .ok (.slice (I ⟨r,off,En⟩) (mI+n) zO) (w.setRow r (cells.toList.take (off+mI*i.size)++news++cells.toList.drop (off+mI*i.size+news.length)).toArray):=by
 have bO:=run_storeCells_at (P:=P) r (off+mI*i.size) te news 0 cells w hg (by simpa using cf) hs.one
 simp only[Nat.add_zero]at bO
 rcases hs.kind with⟨e',hk⟩|hk<;>simp[Builtin.append_,run_underlying ht,run_underlying hk,sizeOf,typeInfo,hi,hs.len,dU,hs.cells,Addr.add_lit,bO]
theorem qmu {t tx ty e:TypeId}{i:TypeInfo}(ht:P.underlying t=I (.slice e))(hi:P.info? e=I i)(x:Value)(hs:Src P i.size tx x 0 [] w):
  (Builtin.append_ #[t,tx] ty #[.slice En 0 0,x]).run P w=.ok (.slice En 0 0) w:=by
 rcases hs.kind with⟨e',hk⟩|hk<;>simp[Builtin.append_,run_underlying ht,run_underlying hk,sizeOf,typeInfo,hi,hs.len,hs.cells]
theorem Mt (m:av P C ω w0 C0 hp w){u:TypeId}{ut:TypeDesc}{sz:Nat}{vy:qa}{ys:List qa}{v:Value}(hu:P.underlying u=I ut)(iV:zB ut=Eh)(h:kr sz vy=I ys)(hr:bC C vy v):
  ∃news,Src P sz u v ys.length news w∧aK C (ys.flatMap qa.flat) news∧(∀y∈ys,y.flat.length=sz)∧∀x∈news,x.oneCell'=Eh:=by
 have hk:(∃e',P.underlying u=I (.slice e'))∨P.underlying u=I .string:=by
  cases ut<;>simp[zB]at iV
  ·exact .inr hu
  ·exact .inl ⟨_,hu⟩
 cases vy with
 |list n sy nz=>
  simp only[kr]at h
  cases hb:(Gp sz sy||nz.isEmpty)with
  |false=>simp[hb]at h
  |true=>
   simp only[hb,cT,I.injEq]at h
   subst h
   rcases hr.cG with⟨rfl,rfl,rfl⟩|⟨rfl,r,q,cap,rfl,_,cM⟩|⟨rfl,rfl,ad,_,rfl⟩
   ·exact⟨[],⟨hk,fun _=>rfl,run_firstCells_none w sz 0 0 0,run_firstCells_none w.drew sz 0 0 0,by simp,by simp⟩,.nil,by simp,by simp⟩
   ·obtain⟨news,h1,h2⟩:=bZ.vals cM.cells
    have h3:∀x∈news,x.oneCell'=Eh:=fun x hx=>by
     obtain⟨j,hj⟩:=If hx
     exact m.cP _ _ _ (h2 j x hj)
    have cD:∀y∈nz,y.flat.length=sz:=by
     intro y hy
     rcases Bool.or_eq_true _ _▸hb with hb|hb
     ·rw[E6 hb];exact cM.sized y hy
     ·rw[List.isEmpty_iff.1 hb]at hy;cases hy
    have hl:news.length=nz.length*sz:=by rw[h1.length,lm nz cD]
    have hc:∀j u,news[j]?=I u→w.cell? ((⟨r,q,En⟩:Addr).add j)=I u:=fun j u hj=>by rw[add_lit];exact m.know _ _ _ (h2 j u hj)
    refine⟨news,⟨hk,fun _=>rfl,run_firstCells_some w sz _ _ _ _ news hl hc,run_firstCells_some w.drew sz _ _ _ _ news hl (by simpa using hc),hl,h3⟩,h1,cD,h3⟩
   ·exact⟨[],⟨hk,fun _=>rfl,run_firstCells_some w sz _ _ _ _ [] (by simp) (by simp),run_firstCells_some w.drew sz _ _ _ _ [] (by simp) (by simp),by simp,by simp⟩,.nil,by simp,by simp⟩
 |str s=>
  simp only[kr]at h
  cases hb:Gp sz 1 with
  |false=>simp[hb]at h
  |true=>
   simp only[hb,cT,I.injEq]at h
   obtain rfl:=E6 hb
   subst h
   obtain rfl:=hr.bW
   have jI:∀l:List UInt8,(l.map fun(c:UInt8)=>qa.int .u8 c.toNat).flatMap qa.flat=l.map fun(c:UInt8)=>qa.int .u8 c.toNat:=by
    intro l;induction l with
    |nil=>rfl
    |cons c l ih=>simp only[S5,Oh,ih];rfl
   have fI:∀l:List UInt8,aK C (l.map fun(c:UInt8)=>qa.int .u8 c.toNat) (l.map fun b=>Value.int .u8 b.toNat):=by
    intro l;induction l with
    |nil=>exact .nil
    |cons c l ih=>exact .cons _ _ _ _ (.int _ _) ih
   refine⟨byteCells ⟨⟨s⟩⟩,⟨hk,fun w'=>by simp[Builtin.lenOf];rfl,?_,?_,?_,?_⟩,?_,?_,?_⟩
   ·rw[Sc];exact firstCells_string (P:=P) ⟨⟨s⟩⟩ w
   ·rw[Sc];exact firstCells_string (P:=P) ⟨⟨s⟩⟩ w.drew
   ·simp[byteCells]
   ·intro u hu;obtain⟨_,_,rfl⟩:=I7.1 hu;rfl
   ·rw[jI];simpa[byteCells]using fI s
   ·intro y hy;obtain⟨_,_,rfl⟩:=I7.1 hy;rfl
   ·intro u hu;obtain⟨_,_,rfl⟩:=I7.1 hu;rfl
 |_=>simp[kr]at h
theorem Fi {x:qf}{s:Nat}(h:km env x=I s):x=.tmp s∧∃v,ye s env=I (v,Eh):=by
 unfold km at h
 split at h
 ·split at h
  ·rename_i t v hl
   cases h
   exact⟨rfl,v,hl⟩
  ·cases h
 ·cases h
theorem q1v (e:ai C ω w w0.heap.size env a.tmps){x:Operand}{x':qf}{sz len cap:Nat}{xs:List qa}{ad:Addr}(h1:zr x=I x')(cB:(km env x').isSome=Eh)(e1:zd env x'=I (.list Ev sz xs))(hx:a.eval x=.slice (I ad) len cap):ad.spot=En:=by
 obtain⟨s,gB⟩:=I6.1 cB
 obtain⟨eM,v0,hl⟩:=Fi gB
 have iJ:v0=.list Ev sz xs:=by
  subst eM
  simp only[zd,hl]at e1
  exact I.inj e1
 subst iJ
 obtain⟨cv,xg,Mu,zP⟩:=e s _ hl
 have n8:cv=.slice (I ad) len cap:=by
  have ig:zr x=I (.tmp s):=by rw[h1,eM]
  cases x with
  |tmp t'=>
   simp only[zr]at ig
   cases ig
   have:a.eval (.tmp s)=cv:=by simp[Act.eval,E7,xg]
   rw[←this,hx]
  |const u=>simp only[zr]at ig;split at ig<;>cases ig
  |func f=>simp[zr]at ig
  |global g=>simp[zr]at ig
 subst n8
 exact(zP rfl).2.2.2.1
theorem q8y (m:av P C ω w0 C0 hp w)(e:ai C ω w w0.heap.size env a.tmps){c:Call}{t u el:TypeId}{ut:TypeDesc}{x y:Operand}{x' y':qf}{sz b:Nat}{n:Bool}{cK:Nat}{xs ys:List qa}{vy:qa}
  (ho:o.op=.call c) (dA:c.callee=.builtin .append) (dL:c.args.toList=[x,y]) (ea:c.argTypes.toList=[t,u]) (ht:P.underlying t=I (.slice el)) (hu:P.underlying u=I ut) (iV:zB ut=Eh)
  (hn:yh P el=I sz) (hb:nq P el=I b) (h1:zr x=I x') (h2:zr y=I y') (e1:zd env x'=I (.list n cK xs)) (e2:zd env y'=I vy) (cy:kr sz vy=I ys)
  (cB:n=Eh∨(km env x').isSome=Eh) (zQ:sz=cK∨(xs=[]∧n=Eh)) (hlen:xs.length+ys.length≤1073741824) (iU:b≤4096) (hzero:∃z,ek P el=I z∧z.length=sz):
  ∃v w',(execOp a.eval o).run P w=.ok (.value v) w'∧kj P C0 w0 C a.tmps d env ⟨pF n sz xs ys,Eh,km env x',hp⟩ v w':=by
 have ha:c.args=#[x,y]:=by apply Sg;simpa using dL
 have jW:c.argTypes=#[t,u]:=by apply Sg;simpa using ea
 obtain⟨i,hi,pN⟩:∃i,P.info? el=I i∧i.bytes=b:=by
  unfold nq at hb
  cases hi:P.info? el with
  |none=>simp[hi]at hb
  |some i=>exact⟨i,rfl,by simpa[hi]using hb⟩
 have jX:i.size=sz:=by
  unfold yh at hn;rw[hi]at hn;simpa using hn
 obtain⟨z,hz,zR⟩:=hzero
 obtain⟨zv,mJ⟩:∃zv,i.zero=I zv:=by
  unfold ek at hz;rw[hi]at hz
  cases hq:i.zero with
  |none=>simp[hq]at hz
  |some v=>exact⟨v,rfl⟩
 have rx:=zt e.bU h1 e1
 have ry:=zt e.bU h2 e2
 obtain⟨news,hs,cH,fj,cI⟩:=Mt m hu iV cy ry
 have eA:∀ {z:Value} {w':World},(Builtin.append_ #[t,u] o.type #[a.eval x,a.eval y]).run P w=.ok z w'→(execOp a.eval o).run P w=.ok (.value z) w':=by
  intro z w' h
  simp[execOp,ho,resolve,dA,ha,jW,invoke,builtin,h]
 have mK:news.length=ys.length*sz:=by rw[cH.length,lm ys fj]
 -- a new row
 have grow:∀(base:Option Addr) (cap:Nat) (eb:List Value),a.eval x=.slice base xs.length cap→cap<xs.length+ys.length→(∀(w':World),w'=w.drew→(Builtin.firstCells i.size xs.length (.slice base xs.length cap)).run P w'=.ok eb.toArray w') →
   aK C (xs.flatMap qa.flat) eb→(∀v∈eb,v.oneCell'=Eh)→(∀x∈xs,x.flat.length=sz) →
   ∃v w',(execOp a.eval o).run P w=.ok (.value v) w'∧kj P C0 w0 C a.tmps d env ⟨.list Ev sz (xs++ys),Eh,km env x',hp⟩ v w':=by
  intro base cap eb pP hcap hold xh Fj n9
  have cf:Builtin.nextslicecap (xs.length+ys.length) cap*i.bytes≤281474976710656:=growslice_fits hcap (by
   rw[pN]
   exact Oe (Si hlen iU) (by decide))
  have bn:=run_append_grow_src w t u o.type el i zv ht hi mJ base xs.length cap eb (hold _ rfl) (a.eval y) ys.length news (jX▸hs) hcap (by omega) cf
  rw[←pP]at bn
  refine⟨_,_,eA bn,?_⟩
  have hx:Ext w w.drew:=Ext.drew w
  have ur:=grownCap_ge w (xs.length+ys.length) cap el
  have gP:zv.cells.size=sz:=by
   obtain⟨_,zv',lj,Fk,_⟩:=uo (C:=C) hz
   have:=lj w
   simp[zeroValue,typeInfo,hi,mJ]at this
   subst this
   have:=Fk.length
   simp at this
   omega
  have ez:=Mr (d:=d) (tmps:=a.tmps) (m.ext hx) (e.ext hx) ((eb++news).toArray++Builtin.zeroCells zv.cells (grownCap w (xs.length+ys.length) cap el-(xs.length+ys.length))) el (xs++ys) sz (grownCap w (xs.length+ys.length) cap el) (eb++news)
   (by rw[List.flatMap_append];exact aK.append xh cH) (by
    intro j v hj
    rw[Array.getElem?_append_left (by simpa using(Gi.1 hj).1)]
    simpa using hj) (by
    intro v hv
    rcases Iu.1 hv with hv|hv
    ·exact Fj v hv
    ·exact cI v hv) (by
    intro x hx
    rcases Iu.1 hx with hx|hx
    ·exact n9 x hx
    ·exact fj x hx) (by rw[Nr];exact ur) (by
    have ho:=xh.length
    rw[lm xs n9]at ho
    simp[Builtin.zeroCells,gP,ho,mK]
    rw[←Ml,←Ml]
    exact M1 _ (by omega)) (km env x')
  rw[Nr]at ez
  exact ez
 rcases rx.cG with⟨rfl,rfl,hx⟩|⟨rfl,r,q,cap,hx,hle,cM⟩|⟨rfl,rfl,ad,lS,hx⟩
 rotate_right
 ·exact absurd (q1v e h1 (by rcases cB with h|h<;>first|cases h|exact h) e1 hx) lS
 ·-- nil
  cases ys with
  |nil=>
   have:news=[]:=by cases cH;rfl
   subst this
   refine⟨.slice En 0 0,w,eA ?_,C,ω,ax.le_refl C,m,e.strip _,by simpa[pF]using qp.iQ 0,fun _=>trivial⟩
   rw[hx]
   exact qmu ht hi _ (jX▸hs)
  |cons y1 ys1=>
   have:=grow En 0 [] hx (by simp) (fun w' _=>run_firstCells_none w' _ _ _ _) .nil (by simp) (by simp)
   simpa[pF]using this
 ·-- own
  rw[show pF Ev sz xs ys=.list Ev sz (xs++ys)from rfl]
  have Fl:(km env x').isSome=Eh:=by rcases cB with h|h<;>first|cases h|exact h
  obtain⟨s,gB⟩:=I6.1 Fl
  obtain⟨eM,v0,hl⟩:=Fi gB
  obtain rfl:sz=cK:=by rcases zQ with h|⟨_,h⟩<;>first|exact h|cases h
  have iJ:v0=.list Ev sz xs:=by
   subst eM
   simp only[zd,hl]at e1
   exact I.inj e1
  subst iJ
  obtain⟨cv,xg,Mu,zP⟩:=e s _ hl
  have n8:cv=.slice (I ⟨r,q,En⟩) xs.length cap:=by
   have ig:zr x=I (.tmp s):=by rw[h1,eM]
   cases x with
   |tmp t'=>
    simp only[zr]at ig
    cases ig
    have:a.eval (.tmp s)=cv:=by simp[Act.eval,E7,xg]
    rw[←this,hx]
   |const u=>simp only[zr]at ig;split at ig<;>cases ig
   |func f=>simp[zr]at ig
   |global g=>simp[zr]at ig
  subst n8
  obtain⟨hω,hB,hβ,_,Mv,⟨cells,te,hg,cf,_⟩,hK⟩:=zP rfl
  simp only at hω hB hβ hg cf hK
  obtain⟨eb,Fm,ho2⟩:=bZ.vals cM.cells
  have n9:=cM.sized
  by_cases dU:xs.length+ys.length≤cap
  ·-- there is room
   have ga:(xs.length+ys.length)*sz≤cap*sz:=M1 _ dU
   rw[Ml]at ga
   have bn:=Sw (P:=P) (w:=w) (ty:=o.type) ht hi r q xs.length cap (a.eval y) ys.length news (jX▸hs) dU hg (by rw[jX,mK];omega)
   rw[←hx]at bn
   obtain⟨m',e',cz⟩:=qxy (d:=d) (tmps:=a.tmps) m e (r:=r) (q:=q+xs.length*sz) (news:=news) hω hB hβ hg (by rw[mK];omega) hK cI
   rw[jX]at bn
   rw[gB]
   refine⟨_,_,eA bn,_,_,cz,m',e',?_,?_⟩
   ·have pQ:aX (C.put r (q+xs.length*sz) news) r sz (xs++ys) q:=aX.append (qp.mono cz cM) (aX.et (ax.eL hK cH) fj)
    have:=qp.list sz (xs++ys) r q cap (by simpa using dU) pQ
    simpa using this
   ·intro _
    have hall:∀x∈xs++ys,x.flat.length=sz:=fun x hx=>by
     rcases Iu.1 hx with hx|hx
     ·exact n9 x hx
     ·exact fj x hx
    refine⟨by simp[ct],hB,hβ,rfl,Mv,⟨_,te,setRow_heap w r cells _ te (0,0) hg,?_,eu.sized hall⟩,?_⟩
    ·simp;omega
    ·intro p hp
     rw[Ml]at hp
     simp only[ax.put]
     simp only at hp
     rw[if_neg (by rw[mK];omega)]
     exact hK p (by omega)
  ·-- there is none
   have fG:∀v∈eb,v.oneCell'=Eh:=fun v hv=>by
    obtain⟨j,hj⟩:=If hv
    exact m.cP _ _ _ (ho2 j v hj)
   have Sx:eb.length=xs.length*i.size:=by rw[Fm.length,lm xs n9,jX]
   have:=grow (I ⟨r,q,En⟩) cap eb hx (by omega) (fun w' Sv=>run_firstCells_some w' _ _ _ _ _ eb Sx (fun j v hj=>by
    subst Sv
    rw[add_lit]
    have:=m.know _ _ _ (ho2 j v hj)
    simpa using this)) Fm fG n9
   simpa using this
end
structure jl (w w':World)(r:Nat):Prop where
 size:w'.heap.size=w.heap.size
 other:∀k,k≠r→w'.heap[k]?=w.heap[k]?
 fz:∀c t fr,w'.heap[r]?=I (.cells c t fr)→fr=(0,0)
 os:w'.os=w.os
 output:w'.output=w.output
theorem jn.ie {w w':World}{r:Nat}{cs:Array Value}(h:jn w w' r cs):jl w w' r:=
 ⟨h.size,h.other,fun c t fr hc=>by obtain⟨t',ht⟩:=h.at_;rw[ht]at hc;cases hc;rfl,h.os,h.output⟩
section
variable {P:Program}{C C0:ax}{ω:Nat→Option Loc}{w w' w0:World}{hp:j8}{env:Env}{a:Act}{o:Oper}{tmps:Array Value}{d:Loc}
theorem aC.df {B b r:Nat}{ℓ:Loc}{x:qa}{v:Value}(hu:jl w w' r)(hb:C.β b=I r)(ho:aC C ω w B ℓ x v):aC C ω w' B ℓ x v:=by
 unfold aC at *
 split at ho
 ·obtain⟨h1,h2,h3,h4,h8,⟨cells,elem,h5,h6⟩,h7⟩:=ho
  refine⟨h1,h2,h3,h4,h8,⟨cells,elem,?_,h6⟩,h7⟩
  rw[hu.other _ (fun h=>h3 b (by rw[h];exact hb))]
  exact h5
 ·obtain⟨h1,h2,h3,h4,h8,⟨cells,elem,h5,h6⟩,h7⟩:=ho
  refine⟨h1,h2,h3,h4,h8,⟨cells,elem,?_,h6⟩,h7⟩
  rw[hu.other _ (fun h=>h3 b (by rw[h];exact hb))]
  exact h5
 ·trivial
theorem ai.df {B b r:Nat}(hu:jl w w' r)(hb:C.β b=I r)(e:ai C ω w B env tmps):ai C ω w' B env tmps:=
 fun s x hx=>let ⟨v,h1,h2,h3⟩:=e s x hx; ⟨v,h1,h2,fun h=>(h3 h).df hu hb⟩
theorem bm.df {B b b' r r':Nat}{x:qm}(hu:jl w w' r)(hb:C.β b=I r)(br:r'≠r)(h:bm P C ω w B b' r' x):bm P C ω w' B b' r' x:=by
 have hg:=hu.other r' br
 cases x with
 |hole=>exact h
 |cells dX=>
  obtain⟨vs,elem,h1,h2,h3⟩:=h
  exact⟨vs,elem,by rw[hg];exact h1,h2,fun j c hc=>let ⟨v,a,q,b,d⟩:=h3 j c hc; ⟨v,a,q,b,fun e=>(d e).df hu hb⟩⟩
 |map es=>obtain⟨bQ,clock,h1,h2⟩:=h;exact⟨bQ,clock,by rw[hg];exact h1,h2⟩
 |iter s pos=>show w'.heap[r']?=_;rw[hg];exact h
 |loop l=>obtain⟨lp,h1,h2⟩:=h;exact⟨lp,by rw[hg];exact h1,h2⟩
 |fD t e l=>obtain⟨p,v,h1,h2,h3,h4⟩:=h;exact⟨p,v,by rw[hg];exact h1,h2,h3,h4.df hu hb⟩
 |dead=>obtain⟨cs,t,h1⟩:=h;exact⟨cs,t,by rw[hg];exact h1⟩
 |vec sz bu xs=>exact dI.imp (fun _ _ _ h=>h) (fun _ h=>h) (fun _ h _=>h) hg (fun q n cap k=>⟨hu.other q (fun hq=>k.2.2.1 b (by rw[hb];exact congrArg I hq.symm)),k.df hu hb⟩) h
theorem av.dw {ω':Nat→Option Loc}(m:av P C ω w0 C0 hp w){b r:Nat}(hu:jl w w' r)(hb:C.β b=I r)(x':qm)(hω:∀b' j y v,b'≠b→aC C ω w w0.heap.size (.cell b' j) y v→aC C ω' w w0.heap.size (.cell b' j) y v)
  (gd:bm P C ω' w' w0.heap.size b r x'):av P C ω' w0 C0 (hp.set b x') w':=by
 have hfr:=m.fresh b r hb
 have pR:w.heap[r]?≠I (.deferred (I [])):=by
  obtain⟨x,hx⟩:=Gl (m.lt b r hb).2▸(⟨_,rfl⟩:∃x,I (hp[b]'(m.lt b r hb).2)=I x)
  have h0:=m.box b x r hx hb
  intro h
  cases x with
  |hole=>exact h0
  |cells cs=>obtain⟨vs,elem,h1,_⟩:=h0;rw[h]at h1;cases h1
  |map es=>obtain⟨bQ,clock,h1,_⟩:=h0;rw[h]at h1;cases h1
  |iter s pos=>have h1:w.heap[r]?=_:=h0;rw[h]at h1;cases h1
  |loop l=>obtain⟨lp,h1,_⟩:=h0;rw[h]at h1;cases h1
  |fD t e l=>obtain⟨p,v,h1,_⟩:=h0;rw[h]at h1;cases h1
  |dead=>obtain⟨cs,t,h1⟩:=h0;rw[h]at h1;cases h1
  |vec sz bu xs=>obtain⟨_,_,_,_,_,_,cs,t,h1⟩:=h0;rw[h]at h1;cases h1
 refine { base:=m.base,know:=?_,cP:=m.cP,apart:=m.apart,inj:=m.inj,lt:=?_,size:=?_,frame:=?_,eQ:=?_,os:=hu.os.trans m.os,output:=hu.output.trans m.output,fresh:=m.fresh,grown:=m.grown,old:=m.old,box:=?_,hH:=fun q hq=>by rw[hu.size];exact m.hH q hq }
 ·intro k p v hk
  have br:k≠r:=fun h=>by rw[h,m.apart b r p hb]at hk;cases hk
  have hc:=m.know _ _ _ hk
  simp only[World.cell?]at hc ⊢
  rw[hu.other k br]
  exact hc
 ·intro k p hk
  rw[hu.size,I8];exact m.lt k p hk
 ·rw[hu.size];exact m.size
 ·intro k hk hn hw
  by_cases gQ:k=r
  ·subst gQ
   rcases hfr with h|h|h
   ·exact absurd h (hn b)
   ·omega
   ·exact absurd h hw
  ·rw[hu.other k gQ];exact m.frame k hk hn hw
 ·intro k hk
  have gQ:k≠r:=fun h=>pR (h▸m.eQ k hk)
  rw[hu.other k gQ];exact m.eQ k hk
 ·intro k x p hx hk
  by_cases jY:k=b
  ·subst jY
   rw[hb]at hk
   cases hk
   rw[Hb (m.lt k _ hb).2]at hx
   cases hx
   exact gd
  ·rw[Ip (Ne.symm jY)]at hx
   have pM:p≠r:=fun h=>jY (m.inj k b p hk (h▸hb))
   have h0:=m.box k x p hx hk
   exact((h0.df hu hb pM).mono (ω':=ω') (ax.le_refl C) (fun j y v ho=>by
    have:=hω k j y v jY
    -- the ownerships of other boxes,in the new world
    unfold aC at ho this ⊢
    split at ho
    ·obtain⟨h1,h2,h3,h4,h8,⟨cells,elem,h5,h6⟩,h7⟩:=ho
     rename_i ad len cap
     have ln:ad.block≠r:=fun h=>h3 b (h▸hb)
     rw[hu.other _ ln]at h5
     obtain⟨k1,_⟩:=this ⟨h1,h2,h3,h4,h8,⟨cells,elem,h5,h6⟩,h7⟩
     exact⟨k1,h2,h3,h4,h8,⟨cells,elem,by rw[hu.other _ ln];exact h5,h6⟩,h7⟩
    ·obtain⟨h1,h2,h3,h4,h8,⟨cells,elem,h5,h6⟩,h7⟩:=ho
     rename_i ad
     have ln:ad.block≠r:=fun h=>h3 b (h▸hb)
     rw[hu.other _ ln]at h5
     obtain⟨k1,_⟩:=this ⟨h1,h2,h3,h4,h8,⟨cells,elem,h5,h6⟩,h7⟩
     exact⟨k1,h2,h3,h4,h8,⟨cells,elem,by rw[hu.other _ ln];exact h5,h6⟩,h7⟩
    ·trivial))
theorem bm.read {B b r off n:Nat}{cs:List (qa×Bool)}{us:List qa}(h:bm P C ω w B b r (.cells cs))(hl:kc cs off n=I us):
  ∃vs,aK C us vs∧us.length=n∧vs.length=n∧(∀j v,vs[j]?=I v→w.cell? ⟨r,off+j,En⟩=I v)∧∀v∈vs,v.oneCell'=Eh:=by
 unfold kc at hl
 cases hb:Nat.ble (off+n) cs.length with
 |false=>simp[hb]at hl
 |true=>
  simp only[hb,cT,I.injEq]at hl
  subst hl
  have hle:=My hb
  obtain⟨vs,elem,h1,h2,h3⟩:=h
  have key:∀(n off:Nat),off+n≤cs.length→∃ws:List Value,aK C (((cs.drop off).take n).map (·.1)) ws∧ws.length=n∧∀j v,ws[j]?=I v→vs[off+j]?=I v∧v.oneCell'=Eh:=by
   intro n
   induction n with
   |zero=>intro off _;exact⟨[],by simpa using qp.nil,rfl,by simp⟩
   |succ n ih=>
    intro off hle
    obtain⟨ws,i1,i2,i3⟩:=ih (off+1) (by omega)
    have aY:off<cs.length:=by omega
    obtain⟨v,j1,j2,j3,_⟩:=h3 off cs[off] (Gl aY)
    refine⟨v::ws,?_,by simp[i2],?_⟩
    ·rw[List.drop_eq_getElem_cons aY]
     exact .cons _ _ _ _ j3 i1
    ·intro j u hj
     cases j with
     |zero=>simp at hj;subst hj;exact⟨j1,j2⟩
     |succ j=>simp at hj;rw[show off+(j+1)=off+1+j from by omega];exact i3 j u hj
  obtain⟨ws,k1,k2,k3⟩:=key n off hle
  refine⟨ws,k1,by simp;omega,k2,?_,?_⟩
  ·intro j v hj
   have:=(k3 j v hj).1
   simp[World.cell?,h1,this]
  ·intro v hv
   obtain⟨j,hj⟩:=If hv
   exact(k3 j v hj).2
theorem Fo {t:TypeId}{n r off:Nat}{vs:List Value}(hg:fg P t=I Eh)(hn:yh P t=I n)(hl:vs.length=n)(hc:∀j v,vs[j]?=I v→w.cell? ⟨r,off+j,En⟩=I v):
  (loadVar t ⟨r,off,En⟩).run P w=.ok (.agg ⟨vs⟩) w:=by
 have:=run_loadCells_list (P:=P) w ⟨r,off,En⟩ vs (fun j v hj=>by rw[add_lit];exact hc j v hj)
 rw[hl]at this
 simp[loadVar,Ds hg,iT hn,this]
theorem Fp {t:TypeId}{r off:Nat}{v:Value}(hg:fg P t=I Ev)(hc:w.cell? ⟨r,off,En⟩=I v):(loadVar t ⟨r,off,En⟩).run P w=.ok v w:=by
 simp[loadVar,Ds hg,hc]
theorem Sy (m:av P C ω w0 C0 hp w)(he:aW C env a.tmps){t:TypeId}{x:Operand}{x':qf}{n:Nat}{ag:Bool}{p v:qa}(ho:o.op=.load t x)(hg:fg P t=I ag)(hn:yh P t=I n)(Fq:ag=Ev→n=1)(h1:zr x=I x')(e1:zd env x'=I p)
  (hv:(∃b q cs us,p=.ptr b q∧yl hp b=I cs∧kc cs q n=I us∧((ag=Eh∧v=.agg us)∨(ag=Ev∧us=[v])))∨(p=.ah v∧Bool.xor ag v.isAgg=Ev∧v.flat.length=n)):Val P C a o w v:=by
 rcases hv with⟨b,q,cs,us,rfl,kU,hl,hv⟩|⟨rfl,hx,vF⟩
 ·obtain⟨r,hr,hq⟩:=(zt he h1 e1).cU
  have gf:hp[b]?=I (.cells cs):=by
   unfold yl at kU
   split at kU
   ·rename_i dX h;cases kU;exact h
   ·cases kU
  obtain⟨vs,k1,_,k2,k3,_⟩:=(m.box b _ r gf hr).read hl
  rcases hv with⟨rfl,rfl⟩|⟨rfl,rfl⟩
  ·exact⟨.agg ⟨vs⟩,by simp[execOp,ho,Instr.loadAt,hq,Instr.sureAddr,Fo hg hn k2 k3],.agg _ _ k1⟩
  ·cases k1 with
   |cons _ _ u us hu jV=>
    cases jV
    refine⟨u,?_,hu⟩
    have:=Fp (P:=P) hg (by simpa using k3 0 u rfl)
    simp[execOp,ho,Instr.loadAt,hq,Instr.sureAddr,this]
 ·obtain⟨r,q,hq,hc⟩:=(zt he h1 e1).ew
  obtain⟨vs,k1,k2⟩:=bZ.vals hc
  have hl:vs.length=n:=by rw[k1.length,vF]
  have k3:∀j u,vs[j]?=I u→w.cell? ⟨r,q+j,En⟩=I u:=fun j u hj=>m.know _ _ _ (k2 j u hj)
  cases ag with
  |true=>
   cases v<;>simp[qa.isAgg]at hx
   exact⟨.agg ⟨vs⟩,by simp[execOp,ho,Instr.loadAt,hq,Instr.sureAddr,Fo hg hn hl k3],.agg _ _ k1⟩
  |false=>
   rw[qcl (by simpa using hx)]at k1
   cases k1 with
   |cons _ _ u us hu jV=>
    cases jV
    refine⟨u,?_,hu⟩
    have:=Fp (P:=P) hg (by simpa using k3 0 u rfl)
    simp[execOp,ho,Instr.loadAt,hq,Instr.sureAddr,this]
def ax.box (C:ax)(b r:Nat):ax:={ C with β:=fun k=>if k=b then I r else C.β k }
theorem ax.jZ {b r:Nat}(h:C.β b=En):C.le (C.box b r):=
 ⟨fun _ _ _ h=>h,fun k p hk=>by
  simp only[ax.box]
  rw[if_neg (fun hb=>by rw[hb,h]at hk;cases hk)]
  exact hk,rfl,fun _ h=>h,fun _ h=>h⟩
theorem aC.box {B b r:Nat}{ℓ:Loc}{x:qa}{v:Value}(hr:w.heap.size≤r∨ω r≠I ℓ)(ho:aC C ω w B ℓ x v):aC (C.box b r) ω w B ℓ x v:=by
 unfold aC at *
 split at ho
 ·rename_i ad len cap
  obtain⟨h1,h2,h3,h4,h8,⟨cells,elem,h5,h6⟩,h7⟩:=ho
  have aY:ad.block<w.heap.size:=(Gh.1 h5).1
  refine⟨h1,h2,fun k hk=>?_,h4,h8,⟨cells,elem,h5,h6⟩,h7⟩
  simp only[ax.box]at hk
  split at hk
  ·have hM:r=ad.block:=I.inj hk
   rcases hr with hr|hr
   ·omega
   ·exact hr (hM▸h1)
  ·exact h3 k hk
 ·rename_i ad
  obtain⟨h1,h2,h3,h4,h8,⟨cells,elem,h5,h6⟩,h7⟩:=ho
  have aY:ad.block<w.heap.size:=(Gh.1 h5).1
  refine⟨h1,h2,fun k hk=>?_,h4,h8,⟨cells,elem,h5,h6⟩,h7⟩
  simp only[ax.box]at hk
  split at hk
  ·have hM:r=ad.block:=I.inj hk
   rcases hr with hr|hr
   ·omega
   ·exact hr (hM▸h1)
  ·exact h3 k hk
 ·trivial
theorem lu {h0 rk:Nat}{x:qm}{h':j8}(h:aI h0 hp rk x=I h'):hp[h0+rk]?=I .hole∧h'=hp.set (h0+rk) x:=by
 unfold aI at h
 split at h
 ·rename_i hh;cases h;exact⟨hh,rfl⟩
 ·cases h
theorem Fs (m:av P C ω w0 C0 hp w){b:Nat}(h:hp[b]?=I .hole):C.β b=En:=by
 cases hb:C.β b with
 |none=>rfl
 |some r=>exact(m.box b .hole r h hb).elim
theorem av.aI (m:av P C ω w0 C0 hp w)(e:ai C ω w w0.heap.size env tmps){b:Nat}(hh:hp[b]?=I .hole)(obj:Obj)(Sz:∀c t fr,obj=.cells c t fr→fr=(0,0))(x:qm)
  (gd:∀C' ω' w',C.le C'→w'.heap[w.heap.size]?=I obj→bm P C' ω' w' w0.heap.size b w.heap.size x):
  av P (C.box b w.heap.size) ω w0 C0 (hp.set b x) (w.alloc obj)∧ai (C.box b w.heap.size) ω (w.alloc obj) w0.heap.size env tmps∧C.le (C.box b w.heap.size):=by
 have hx:Ext w (w.alloc obj):=Ext.alloc w obj Sz
 have hβ:=Fs m hh
 have hle:=ax.jZ (C:=C) (r:=w.heap.size) hβ
 have m':=m.ext hx
 have aY:b<hp.length:=(Gi.1 hh).1
 refine⟨{ m' with apart:=?_,inj:=?_,lt:=?_,fresh:=?_,grown:=ax.le_trans m.grown hle,box:=?_ },?_,hle⟩
 ·intro k r q hk
  simp only[ax.box]at hk
  split at hk
  ·cases hk;exact m.jD _ (Ga _) q
  ·exact m.apart k r q hk
 ·intro k k' r hk eC
  simp only[ax.box]at hk eC
  split at hk<;>split at eC
  ·rename_i h1 h2;rw[h1,h2]
  ·cases hk;have:=(m.lt k' _ eC).1;omega
  ·cases eC;have:=(m.lt k _ hk).1;omega
  ·exact m.inj k k' r hk eC
 ·intro k r hk
  rw[I8]
  simp only[ax.box]at hk
  split at hk
  ·rename_i h1;cases hk;subst h1;exact⟨by rw[World.size_alloc];omega,aY⟩
  ·have:=m.lt k r hk;exact⟨by rw[World.size_alloc];omega,this.2⟩
 ·intro k r hk
  simp only[ax.box]at hk
  split at hk
  ·cases hk;exact .inr (.inl m.size)
  ·exact m.fresh k r hk
 ·intro k y r hy hk
  simp only[ax.box]at hk
  split at hk
  ·rename_i h1
   subst h1
   cases hk
   rw[Hb aY]at hy
   cases hy
   exact gd _ _ _ hle (by rw[vD,if_pos rfl])
  ·rename_i h1
   rw[Ip (Ne.symm h1)]at hy
   exact((m.box k y r hy hk).mono (ω':=ω) hle fun j z v ho=>ho.box (.inl (Ga _))).ext hx
 ·exact fun s y hy=>let ⟨v,h1,h2,h3⟩:=e s y hy; ⟨v,h1,qp.mono hle h2,fun h=>((h3 h).box (.inl (Ga _))).ext hx⟩
theorem aC.Ft {B b r:Nat}{ℓ:Loc}{x:qa}{v:Value}(hr:∀cs t fr,w.heap[r]?≠I (.cells cs t fr))(ho:aC C ω w B ℓ x v):aC (C.box b r) ω w B ℓ x v:=by
 unfold aC at *
 split at ho
 ·rename_i ad len cap
  obtain⟨h1,h2,h3,h4,h8,⟨cells,elem,h5,h6⟩,h7⟩:=ho
  refine⟨h1,h2,fun k hk=>?_,h4,h8,⟨cells,elem,h5,h6⟩,h7⟩
  simp only[ax.box]at hk
  split at hk
  ·have hM:r=ad.block:=I.inj hk
   exact absurd (hM▸h5) (hr _ _ _)
  ·exact h3 k hk
 ·rename_i ad
  obtain⟨h1,h2,h3,h4,h8,⟨cells,elem,h5,h6⟩,h7⟩:=ho
  refine⟨h1,h2,fun k hk=>?_,h4,h8,⟨cells,elem,h5,h6⟩,h7⟩
  simp only[ax.box]at hk
  split at hk
  ·have hM:r=ad.block:=I.inj hk
   exact absurd (hM▸h5) (hr _ _ _)
  ·exact h3 k hk
 ·trivial
theorem av.Fu (m:av P C ω w0 C0 hp w)(e:ai C ω w w0.heap.size env tmps){b q:Nat}{es:List (qa×qa)}{bQ:Array MapEntry}{clock:Nat}(hh:hp[b]?=I .hole)(hg:w.heap[q]?=I (.map bQ clock))(hq:∀k,C.β k≠I q)(hb:w0.heap.size≤q)(hr:qy C es bQ.toList):
  av P (C.box b q) ω w0 C0 (hp.set b (.map es)) w∧ai (C.box b q) ω w w0.heap.size env tmps∧C.le (C.box b q):=by
 have hβ:=Fs m hh
 have hle:=ax.jZ (C:=C) (r:=q) hβ
 have aY:b<hp.length:=(Gi.1 hh).1
 have kW:∀cs t fr,w.heap[q]?≠I (.cells cs t fr):=fun cs t fr h=>by rw[hg]at h;cases h
 refine⟨{ m with apart:=?_,inj:=?_,lt:=?_,fresh:=?_,grown:=ax.le_trans m.grown hle,box:=?_ },?_,hle⟩
 ·intro k r o hk
  simp only[ax.box]at hk
  split at hk
  ·cases hk
   show C.K q o=En
   cases hK:C.K q o with
   |none=>rfl
   |some v=>
    have:=m.know q o v hK
    simp[World.cell?,hg]at this
  ·exact m.apart k r o hk
 ·intro k k' r hk eC
  simp only[ax.box]at hk eC
  split at hk<;>split at eC
  ·rename_i h1 h2;rw[h1,h2]
  ·cases hk;exact absurd eC (hq k')
  ·cases eC;exact absurd hk (hq k)
  ·exact m.inj k k' r hk eC
 ·intro k r hk
  rw[I8]
  simp only[ax.box]at hk
  split at hk
  ·rename_i h1;cases hk;subst h1;exact⟨(Gh.1 hg).1,aY⟩
  ·exact m.lt k r hk
 ·intro k r hk
  simp only[ax.box]at hk
  split at hk
  ·cases hk;exact .inr (.inl hb)
  ·exact m.fresh k r hk
 ·intro k y r hy hk
  simp only[ax.box]at hk
  split at hk
  ·rename_i h1
   subst h1
   cases hk
   rw[Hb aY]at hy
   cases hy
   exact⟨bQ,clock,hg,hr.mono hle⟩
  ·rename_i h1
   rw[Ip (Ne.symm h1)]at hy
   exact(m.box k y r hy hk).mono (ω':=ω) hle fun j z v ho=>ho.Ft kW
 ·exact fun s y hy=>let ⟨v,h1,h2,h3⟩:=e s y hy; ⟨v,h1,qp.mono hle h2,fun h=>(h3 h).Ft kW⟩
theorem SA {xs:List qa}{vs:List Value}{t:TypeId}{B b r:Nat}{cells:Array Value}(hr:aK C xs vs)(hs:∀x∈xs,ze x=Eh)(hv:∀(j:Nat) v,vs[j]?=I v→cells[j]?=I v)(hl:xs.length≤cells.size):
  ∀C' ω' w',C.le C'→w'.heap[r]?=I (.cells cells t (0,0))→bm P C' ω' w' B b r (.cells (cellsOf xs)):=by
 intro C' ω' w' hle hg
 refine⟨cells,t,hg,by simpa[cellsOf]using hl,?_⟩
 intro j c hc
 simp only[cellsOf,Og,Option.map_eq_some_iff]at hc
 obtain⟨x,hx,rfl⟩:=hc
 obtain⟨v,h1,h2⟩:=hr.get hx
 exact⟨v,hv j v h1,Ss h2 (hs x (Hv hx)),qp.mono hle h2,by simp⟩
theorem jbm (m:av P C ω w0 C0 hp w)(e:ai C ω w w0.heap.size env a.tmps){t:TypeId}{z:List qa}{h0 rk:Nat}{h':j8}(ho:o.op=.alloc t)(hz:ek P t=I z)(hs:∀x∈z,ze x=Eh)(hn:aI h0 hp rk (.cells (cellsOf z))=I h'):
  ∃v w',(execOp a.eval o).run P w=.ok (.value v) w'∧kj P C0 w0 C a.tmps d env ⟨.ptr (h0+rk) 0,Ev,En,h'⟩ v w':=by
 obtain⟨hh,rfl⟩:=lu hn
 obtain⟨_,zv,kQ,cw,lj⟩:=uo (C:=C) hz
 obtain⟨m',e',hle⟩:=m.aI e hh (.cells zv.cells t) (fun c t fr h=>by cases h;rfl) (.cells (cellsOf z)) (SA cw hs (fun j v h=>by simpa using h) (by have:=cw.length;simp at this;omega))
 refine⟨.pointer (I ⟨w.heap.size,0,En⟩),_,?_,_,_,hle,m',e',.ptr _ _ _ (by simp[ax.box]),by simp⟩
 simp[execOp,ho,Instr.alloc,kQ,newVar,newRow]
theorem jkr (m:av P C ω w0 C0 hp w)(e:ai C ω w w0.heap.size env a.tmps){t:TypeId}{x:Operand}{x':qf}{v:qa}{h0 rk:Nat}{h':j8}(ho:o.op=.box t x)(h1:zr x=I x')(e1:zd env x'=I v)(hs:v.flat.all ze=Eh)
  (hn:aI h0 hp rk (.cells (cellsOf v.flat))=I h'):
  ∃v w',(execOp a.eval o).run P w=.ok (.value v) w'∧kj P C0 w0 C a.tmps d env ⟨.ptr (h0+rk) 0,Ev,En,h'⟩ v w':=by
 obtain⟨hh,rfl⟩:=lu hn
 have hr:=zK (zt e.bU h1 e1) hs
 obtain⟨m',e',hle⟩:=m.aI e hh (.cells (a.eval x).cells t) (fun c t fr h=>by cases h;rfl) (.cells (cellsOf v.flat)) (SA hr (by simpa using hs) (fun j v h=>by simpa using h) (by have:=hr.length;simp at this;omega))
 refine⟨.pointer (I ⟨w.heap.size,0,En⟩),_,?_,_,_,hle,m',e',.ptr _ _ _ (by simp[ax.box]),by simp⟩
 simp[execOp,ho,Instr.box,newVar,newRow]
theorem je4 (m:av P C ω w0 C0 hp w)(e:ai C ω w w0.heap.size env a.tmps){t:TypeId}{x:Operand}{x':qf}{v:qa}(ho:o.op=.box t x)(h1:zr x=I x')(e1:zd env x'=I v)(hs:v.flat.all ze=Eh):
  ∃u w',(execOp a.eval o).run P w=.ok (.value u) w'∧kj P C0 w0 C a.tmps d env ⟨.ah v,Ev,En,hp⟩ u w':=by
 have hr:=zK (zt e.bU h1 e1) hs
 have hx:Ext w (w.alloc (.cells (a.eval x).cells t)):=Ext.alloc w _ (fun c t fr h=>by cases h;rfl)
 have hn:∀o,0≤o→C.K w.heap.size o=En:=fun o _=>m.jD _ (Ga _) o
 have m':=m.newRow (a.eval x).cells t (a.eval x).cells.toList (fun j v h=>by simpa using h) (zM hr (fun y hy=>Oj.1 hs y hy))
 refine⟨.pointer (I ⟨w.heap.size,0,En⟩),_,?_,_,ω,ax.fZ _ hn,m',(e.put _ (.inl (Ga _)) hn).ext hx,.ah _ _ _ (ax.eL hn hr),by simp⟩
 simp[execOp,ho,Instr.box,newVar,newRow]
theorem jkw (m:av P C ω w0 C0 hp w)(e:ai C ω w w0.heap.size env a.tmps){t:TypeId}{e' sz:Nat}{h0 rk:Nat}{h':j8}(ho:o.op=.alloc t)(hz:ek P t=I [.bN,.list Eh sz []])(hn:aI h0 hp rk (.fD t e' [])=I h'):
  ∃v w',(execOp a.eval o).run P w=.ok (.value v) w'∧kj P C0 w0 C a.tmps d env ⟨.ptr (h0+rk) 0,Ev,En,h'⟩ v w':=by
 obtain⟨hh,rfl⟩:=lu hn
 obtain⟨_,zv,kQ,cw,lj⟩:=uo (C:=C) hz
 have hzc:zv.cells=#[.pointer En,.slice En 0 0]:=by
  apply Sg
  generalize zv.cells.toList=vs at cw
  cases cw with
  |cons _ _ v vs h1 h2=>
   cases h2 with
   |cons _ _ u us h3 h4=>
    cases h4
    cases h1
    cases h3
    rfl
 obtain⟨m',e',hle⟩:=m.aI e hh (.cells zv.cells t) (fun c t fr h=>by cases h;rfl) (.fD t e' []) (fun C' ω' w' _ hg=>⟨.pointer En,.slice En 0 0,by rw[hzc]at hg;exact hg,.inl rfl,.inl ⟨rfl,rfl⟩,trivial⟩)
 refine⟨.pointer (I ⟨w.heap.size,0,En⟩),_,?_,_,_,hle,m',e',.ptr _ _ _ (by simp[ax.box]),by simp⟩
 simp[execOp,ho,Instr.alloc,kQ,newVar,newRow]
theorem jcd (m:av P C ω w0 C0 hp w)(e:ai C ω w w0.heap.size env a.tmps){t:TypeId}{h0 rk:Nat}{h':j8}(ho:o.op=.makeMap t En)(hn:aI h0 hp rk (.map [])=I h'):
  ∃v w',(execOp a.eval o).run P w=.ok (.value v) w'∧kj P C0 w0 C a.tmps d env ⟨.map (h0+rk),Ev,En,h'⟩ v w':=by
 obtain⟨hh,rfl⟩:=lu hn
 obtain⟨m',e',hle⟩:=m.aI e hh (.map #[] 0) (fun c t fr h=>by cases h) (.map []) (fun C' ω' w' _ hg=>⟨#[],0,hg,.nil⟩)
 refine⟨.map (I w.heap.size),_,?_,_,_,hle,m',e',.map _ _ (by simp[ax.box]),by simp⟩
 simp[execOp,ho,Instr.makeMap]
theorem q9s (m:av P C ω w0 C0 hp w)(e:ai C ω w w0.heap.size env a.tmps){t:TypeId}{x:Operand}{x':qf}{s:List UInt8}{h0 rk:Nat}{h':j8}(ho:o.op=.range t x)(ht:P.underlying t=I .string)(h1:zr x=I x')(e1:zd env x'=I (.str s))(hn:aI h0 hp rk (.iter s 0)=I h'):
  ∃v w',(execOp a.eval o).run P w=.ok (.value v) w'∧kj P C0 w0 C a.tmps d env ⟨.ptr (h0+rk) 0,Ev,En,h'⟩ v w':=by
 obtain⟨hh,rfl⟩:=lu hn
 have hs:=(zt e.bU h1 e1).bW
 obtain⟨m',e',hle⟩:=m.aI e hh (.stringIter ⟨⟨s⟩⟩ 0) (fun c t fr h=>by cases h) (.iter s 0) (fun C' ω' w' _ hg=>hg)
 refine⟨.pointer (I ⟨w.heap.size,0,En⟩),_,?_,_,_,hle,m',e',.ptr _ _ _ (by simp[ax.box]),by simp⟩
 simp[execOp,ho,Instr.range,run_underlying ht,hs]
end
section
variable {P:Program}{C C0:ax}{ω:Nat→Option Loc}{w w' w0:World}{hp:j8}{env:Env}{a:Act}{o:Oper}{tmps:Array Value}{d:Loc}
def uv (ω:Nat→Option Loc)(x:qa)(v:Value)(ℓ:Loc):Nat→Option Loc:=
 match x,v with
 | .list ..,.slice (I ad) _ _=>ct ω ad.block ℓ
 | .cE _,.pointer (I ad)=>ct ω ad.block ℓ
 |_,_=>ω
theorem xi {B:Nat}{ℓ0 ℓ ℓ':Loc}{x z:qa}{cv u:Value}(h0:aC C ω w B ℓ0 x cv)(br:ℓ≠ℓ0)(hz:aC C ω w B ℓ z u):aC C (uv ω x cv ℓ') w B ℓ z u:=by
 unfold uv
 split
 ·rename_i ad l c
  have hω:ω ad.block=I ℓ0:=h0.1
  exact hz.other (.inl (by rw[hω];intro h;exact br (I.inj h).symm))
 ·rename_i n ad
  have hω:ω ad.block=I ℓ0:=h0.1
  exact hz.other (.inl (by rw[hω];intro h;exact br (I.inj h).symm))
 ·exact hz
theorem Mw {B:Nat}{ℓ0 ℓ':Loc}{x:qa}{cv:Value}(h0:aC C ω w B ℓ0 x cv):aC C (uv ω x cv ℓ') w B ℓ' x cv:=by
 unfold uv
 split
 ·exact⟨by simp[ct],h0.2⟩
 ·exact⟨by simp[ct],h0.2⟩
 ·rename_i h1 h2
  unfold aC
  split
  ·exact absurd rfl (h1 _ _ _ _ _ _ rfl)
  ·exact absurd rfl (h2 _ _ rfl)
  ·trivial
theorem vH {b:Nat}{cs:List (qa×Bool)}(h:yl hp b=I cs):hp[b]?=I (.cells cs):=by
 unfold yl at h
 split at h
 ·rename_i dX h';cases h;exact h'
 ·cases h
theorem zS {b:Nat}{x:qm}{h':j8}(h:yj hp b x=I h'):h'=hp.set b x:=by
 unfold yj at h
 cases hb:Nat.blt b hp.length with
 |false=>simp[hb]at h
 |true=>simpa[hb]using h.symm
theorem bm.store {ω':Nat→Option Loc}{B b r off:Nat}{cs:List (qa×Bool)}{us:List qa}{news:List Value}{fl:List Bool}{vs:Array Value}{t:TypeId}(zT:fl.length=us.length)(hr:aK C us news)(h1:∀v∈news,v.oneCell'=Eh)
  (hl:off+us.length≤cs.length) (cD:cs.length≤vs.size) (hold:∀j c,cs[j]?=I c→∃v,vs[j]?=I v∧v.oneCell'=Eh∧bC C c.1 v∧(c.2=Eh→aC C ω' w' B (.cell b j) c.1 v))
  (cQ:∀j u v,us[j]?=I u→news[j]?=I v→fl[j]?=I Eh→aC C ω' w' B (.cell b (off+j)) u v)
  (hg:w'.heap[r]?=I (.cells (vs.toList.take off++news++vs.toList.drop (off+news.length)).toArray t (0,0))):
  bm P C ω' w' B b r (.cells (cs.take off++us.zip fl++cs.drop (off+us.length))):=by
 have mK:=hr.length
 refine⟨_,t,hg,?_,?_⟩
 ·simp;omega
 ·intro j c hc
  rw[Ha]at hc
  have e1:(St off cs).length=off:=by simp;omega
  have e2:(us.zip fl).length=us.length:=by simp[zT]
  have f1:(St off vs.toList).length=off:=by simp;omega
  simp only[Ht,Ha]
  by_cases hj:j<off
  ·rw[E5 (by omega),Gm hj]at hc
   obtain⟨v,a1,a2,a3,a4⟩:=hold j c hc
   exact⟨v,by rw[E5 (by omega),Gm hj,Gc];exact a1,a2,a3,a4⟩
  ·rw[Eo (by omega),e1]at hc
   by_cases hj2:j<off+us.length
   ·rw[E5 (by omega)]at hc
    have du:=List.getElem?_zip_eq_some.1 hc
    obtain⟨v,a1,a2⟩:=hr.get du.1
    refine⟨v,by rw[Eo (by omega),f1,E5 (by omega)];exact a1,h1 v (Hv a1),a2,fun hf=>?_⟩
    have:=cQ (j-off) c.1 v du.1 a1 (by rw[du.2,hf])
    rw[show off+(j-off)=j from by omega]at this
    exact this
   ·rw[Eo (by omega),e2,Od]at hc
    rw[show off+us.length+(j-off-us.length)=j from by omega]at hc
    obtain⟨v,a1,a2,a3,a4⟩:=hold j c hc
    exact⟨v,by rw[Eo (by omega),f1,Eo (by omega),Od,show off+news.length+(j-off-news.length)=j from by omega,Gc];exact a1,a2,a3,a4⟩
theorem jca (us:List qa):us.zip (El us.length Ev)=us.map (·,Ev):=by
 induction us with
 |nil=>rfl
 |cons x us ih=>simp only[List.length_cons,Gb,List.zip_cons_cons,ih,S5]
theorem q24 (m:av P C ω w0 C0 hp w)(e:ai C ω w w0.heap.size env tmps){b r off:Nat}{cs:List (qa×Bool)}{us:List qa}{news:List Value}(hb:hp[b]?=I (.cells cs))(hr:C.β b=I r)(fT:aK C us news)(h1:∀v∈news,v.oneCell'=Eh)(hl:off+us.length≤cs.length):
  ∃vs t,w.heap[r]?=I (.cells vs t (0,0))∧off+news.length≤vs.size ∧
   av P C ω w0 C0 (hp.set b (.cells (cs.take off++us.map (·,Ev)++cs.drop (off+us.length)))) (w.setRow r (vs.toList.take off++news++vs.toList.drop (off+news.length)).toArray) ∧
   ai C ω (w.setRow r (vs.toList.take off++news++vs.toList.drop (off+news.length)).toArray) w0.heap.size env tmps:=by
 obtain⟨vs,t,hg,cD,hold⟩:=m.box b _ r hb hr
 have hu:=Ff hg (vs.toList.take off++news++vs.toList.drop (off+news.length)).toArray
 have mK:=fT.length
 refine⟨vs,t,hg,by omega,m.dw hu.ie hr _ (fun b' j y v _ h=>h) ?_,e.df hu.ie hr⟩
 rw[←jca]
 refine bm.store (by simp) fT h1 hl cD (fun j c hc=>?_) (fun j u v _ _ hf=>?_) (setRow_heap w r vs _ t (0,0) hg)
 ·obtain⟨v,a1,a2,a3,a4⟩:=hold j c hc
  exact⟨v,a1,a2,a3,fun h=>(a4 h).df hu.ie hr⟩
 ·rw[List.getElem?_replicate]at hf;split at hf<;>cases hf
theorem SC {t te:TypeId}{n r off:Nat}{v:Value}{vs:Array Value}(hn:yh P t=I n)(hl:v.cells.toList.length=n)(hg:w.heap[r]?=I (.cells vs te (0,0)))(cf:off+v.cells.toList.length≤vs.size)(h1:∀u∈v.cells.toList,u.oneCell'=Eh):
  (storeVar t ⟨r,off,En⟩ v).run P w=.ok () (w.setRow r (vs.toList.take off++v.cells.toList++vs.toList.drop (off+v.cells.toList.length)).toArray):=by
 have bO:=run_storeCells_at (P:=P) r off te v.cells.toList 0 vs w hg (by simpa using cf) h1
 simp only[Nat.add_zero]at bO
 have:¬(v.cells.size≠n):=by simp at hl;simpa using hl
 simp only[storeVar,Sem.run_bind,iT hn,Result.andThen_ok,this,if_false,Sem.run_ite,bO]
theorem jat (m:av P C ω w0 C0 hp w)(e:ai C ω w w0.heap.size env a.tmps){t:TypeId}{x y:Operand}{x' y':qf}{n b q:Nat}{v:qa}{cs dX:List (qa×Bool)}{h':j8}(ho:o.op=.store t x y)(hn:yh P t=I n)
  (h1:zr x=I x') (h2:zr y=I y') (e1:zd env x'=I (.ptr b q)) (e2:zd env y'=I v) (kU:yl hp b=I cs) (vF:v.flat.length=n) (bO:yi cs q v.flat=I dX) (bh:yj hp b (.cells dX)=I h'):
  ∃w',(execOp a.eval o).run P w=.ok .skip w'∧kj P C0 w0 C a.tmps d env ⟨.undef,Ev,En,h'⟩ undef w':=by
 obtain⟨r,hr,hq⟩:=(zt e.bU h1 e1).cU
 unfold yi at bO
 cases hb:(Nat.ble (q+v.flat.length) cs.length&&v.flat.all ze)with
 |false=>simp[hb]at bO
 |true=>
  simp only[hb,cT,I.injEq]at bO
  simp only[Oi]at hb
  subst bO
  have ry:=zK (zt e.bU h2 e2) hb.2
  have cI:=zM ry (by simpa using hb.2)
  obtain⟨vs,te,hg,cf,m',e'⟩:=q24 m e (vH kU) hr ry cI (My hb.1)
  obtain rfl:=zS bh
  have bn:=SC (P:=P) hn (by rw[ry.length,vF]) hg cf cI
  exact⟨_,by simp[execOp,ho,Instr.storeAt,hq,Instr.sureAddr,bn],C,ω,ax.le_refl C,m',e',.undef,by simp⟩
theorem q1g (m:av P C ω w0 C0 hp w)(e:ai C ω w w0.heap.size env a.tmps){t:TypeId}{x y:Operand}{x' y':qf}{b q s:Nat}{v:qa}{cs:List (qa×Bool)}{h':j8}(ho:o.op=.store t x y)(hn:yh P t=I 1)
  (h1:zr x=I x') (h2:zr y=I y') (e1:zd env x'=I (.ptr b q)) (e2:zd env y'=I v) (kU:yl hp b=I cs) (hv:v.cu=Eh) (aY:q<cs.length) (cB:km env y'=I s) (bh:yj hp b (.cells (cs.set q (v,Eh)))=I h'):
  ∃w',(execOp a.eval o).run P w=.ok .skip w'∧kj P C0 w0 C a.tmps d env ⟨.undef,Ev,I s,h'⟩ undef w':=by
 obtain⟨r,hr,hq⟩:=(zt e.bU h1 e1).cU
 have ry:=zt e.bU h2 e2
 obtain⟨pS,v0,hl⟩:=Fi cB
 have iJ:v0=v:=by subst pS;simp only[zd,hl]at e2;exact I.inj e2
 subst iJ
 have jI:v0.flat=[v0]:=by cases v0<;>simp[qa.cu]at hv<;>rfl
 have hsc:ze v0=Eh:=by cases v0<;>simp[qa.cu]at hv<;>rfl
 have rf:=zK ry (by rw[jI];simpa using hsc)
 rw[jI]at rf
 have cI:=zM rf (by simpa using hsc)
 have dH:(a.eval y).cells.toList=[a.eval y]:=by
  have:=Ss ry hsc
  cases hh:a.eval y<;>simp[hh,Value.oneCell']at this<;>rfl
 obtain⟨cv,xg,Mu,zP⟩:=e s _ hl
 have n8:a.eval y=cv:=by
  have zU:zr y=I (.tmp s):=by rw[h2,pS]
  cases y with
  |tmp t'=>simp only[zr]at zU;cases zU;simp[Act.eval,E7,xg]
  |const u=>simp only[zr]at zU;split at zU<;>cases zU
  |func f=>simp[zr]at zU
  |global g=>simp[zr]at zU
 obtain⟨vs,te,hg,cD,hold⟩:=m.box b _ r (vH kU) hr
 have hu:=Ff hg (vs.toList.take q++[a.eval y]++vs.toList.drop (q+1)).toArray
 have gO:(a.eval y).cells.toList.length=1:=by rw[dH];rfl
 have bn:=SC (P:=P) (t:=t) (off:=q) hn gO hg (by omega) cI
 rw[gO,dH]at bn
 obtain rfl:=zS bh
 have xj:=zP rfl
 have nA:∀ℓ z u,ℓ≠.slot s→aC C ω w w0.heap.size ℓ z u→aC C (uv ω v0 cv (.cell b q)) w w0.heap.size ℓ z u:=fun ℓ z u hℓ hz=>xi xj hℓ hz
 have cQ:aC C (uv ω v0 cv (.cell b q)) w w0.heap.size (.cell b q) v0 cv:=Mw xj
 have hcs:cs.take q++[(v0,Eh)]++cs.drop (q+1)=cs.set q (v0,Eh):=by
  rw[List.set_eq_take_append_cons_drop,if_pos aY];simp
 refine⟨w.setRow r (vs.toList.take q++[a.eval y]++vs.toList.drop (q+1)).toArray,by simp only[execOp,ho,Instr.storeAt,Sem.run_bind,hq,Instr.sureAddr,Sem.run_pure,Result.andThen_ok,bn],C,uv ω v0 cv (.cell b q),ax.le_refl C,?_,?_,.undef,by simp⟩
 ·refine m.dw hu.ie hr _ (fun b' j z u eZ hz=>nA _ z u (by simp) hz) ?_
  rw[←hcs]
  have hz:[(v0,Eh)]=[v0].zip [Eh]:=rfl
  rw[hz]
  refine bm.store (us:=[v0]) (fl:=[Eh]) (news:=[a.eval y]) rfl (by rw[←dH];exact rf) (by rw[←dH];exact cI) (by simp;omega) cD (fun j c hc=>?_) (fun j u v Fv nx _=>?_) (setRow_heap w r vs _ te (0,0) hg)
  ·obtain⟨v,a1,a2,a3,a4⟩:=hold j c hc
   exact⟨v,a1,a2,a3,fun h=>(nA _ _ _ (by simp) (a4 h)).df hu.ie hr⟩
  ·cases j with
   |zero=>
    simp at Fv nx
    subst Fv;subst nx
    have h3:=cQ.df hu.ie hr
    exact n8▸h3
   |succ j=>simp at Fv
 ·intro t' x' eM
  by_cases lq:t'=s
  ·subst lq
   simp only[gy,hl,ye,Nat.beq_refl,cT]at eM
   cases eM
   exact⟨cv,xg,Mu,by simp⟩
  ·have ij:ye t' env=I x':=by
    simp only[gy,hl,ye]at eM
    have:Gp s t'=Ev:=by
     cases hb:Gp s t' with
     |false=>rfl
     |true=>exact absurd (E6 hb).symm lq
    rw[this]at eM
    exact eM
   obtain⟨u,k1,k2,k3⟩:=e t' x' ij
   exact⟨u,k1,k2,fun h=>(nA _ _ _ (by simp[lq]) (k3 h)).df hu.ie hr⟩
end
section
variable {P:Program}{C C0:ax}{ω:Nat→Option Loc}{w w' w0:World}{hp:j8}{env:Env}{a:Act}{o:Oper}{tmps:Array Value}{d:Loc}
theorem q0e {s:Nat}{v:qa}{ow:Bool}(hl:ye s env=I (v,ow)){t:Nat}{x:qa×Bool}(hx:ye t (gy env (I s))=I x):(t=s∧x=(v,Ev))∨(t≠s∧ye t env=I x):=by
 simp only[gy,hl,ye]at hx
 cases hb:Gp s t with
 |true=>
  simp only[hb,cT,I.injEq]at hx
  exact .inl ⟨(E6 hb).symm,hx.symm⟩
 |false=>
  simp only[hb,cond_false]at hx
  refine .inr ⟨fun h=>?_,hx⟩
  subst h
  simp at hb
theorem jht (m:av P C ω w0 C0 hp w)(e:ai C ω w w0.heap.size env a.tmps){s:Nat}{v:qa}{ow:Bool}(ho:o.op=.move (.tmp s)∨o.op=.assign (.tmp s))(hl:ye s env=I (v,ow)):
  ∃u w',(execOp a.eval o).run P w=.ok (.value u) w'∧kj P C0 w0 C a.tmps d env ⟨v,ow,I s,hp⟩ u w':=by
 obtain⟨cv,h1,h2,h3⟩:=e s _ hl
 have gC:a.eval (.tmp s)=cv:=by simp[Act.eval,E7,h1]
 have bn:(execOp a.eval o).run P w=.ok (.value cv) w:=by rcases ho with ho|ho<;>simp[execOp,ho,gC]
 refine⟨cv,w,bn,?_⟩
 by_cases hk:ow=Eh
 ·subst hk
  have cB:=h3 rfl
  refine⟨C,uv ω v cv d,ax.le_refl C,?_,?_,h2,fun _=>Mw cB⟩
  ·exact { m with box:=fun b x r hx hb=>(m.box b x r hx hb).mono (ax.le_refl C) fun j y u hz=>xi cB (by simp) hz }
  ·intro t x hx
   rcases q0e hl hx with⟨rfl,rfl⟩|⟨br,eM⟩
   ·exact⟨cv,h1,h2,by simp⟩
   ·obtain⟨u,k1,k2,k3⟩:=e t x eM
    exact⟨u,k1,k2,fun h=>xi cB (by simpa using br) (k3 h)⟩
 ·refine⟨C,ω,ax.le_refl C,m,e.strip _,h2,fun h=>absurd h hk⟩
theorem q2m (m:av P C ω w0 C0 hp w)(e:ai C ω w w0.heap.size env a.tmps){t:TypeId}{x:Operand}{x':qf}{b q:Nat}{v:qa}{ow:Bool}{cs:List (qa×Bool)}{h':j8}(ho:o.op=.load t x)(cL:fg P t=I Ev)
  (h1:zr x=I x') (e1:zd env x'=I (.ptr b q)) (kU:yl hp b=I cs) (hc:cs[q]?=I (v,ow)) (bh:yj hp b (.cells (cs.set q (v,Ev)))=I h'):
  ∃u w',(execOp a.eval o).run P w=.ok (.value u) w'∧kj P C0 w0 C a.tmps d env ⟨v,ow,En,h'⟩ u w':=by
 obtain⟨r,hr,hq⟩:=(zt e.bU h1 e1).cU
 obtain⟨vs,te,hg,cD,hold⟩:=m.box b _ r (vH kU) hr
 obtain⟨cv,k1,k2,k3,k4⟩:=hold q _ hc
 obtain rfl:=zS bh
 have dH:w.cell? ⟨r,q,En⟩=I cv:=by
  simp only[World.cell?,hg]
  simpa using k1
 have bn:(execOp a.eval o).run P w=.ok (.value cv) w:=by
  simp[execOp,ho,hq,Instr.loadAt,Instr.sureAddr,Fp cL dH]
 have hu:jl w w r:=⟨rfl,fun _ _=>rfl,fun c t fr h=>by rw[hg]at h;cases h;rfl,rfl,rfl⟩
 have gd:∀ω':Nat→Option Loc,(∀j c u,j≠q→aC C ω w w0.heap.size (.cell b j) c u→aC C ω' w w0.heap.size (.cell b j) c u)→bm P C ω' w w0.heap.size b r (.cells (cs.set q (v,Ev))):=by
  intro ω' hk
  refine⟨vs,te,hg,by simpa using cD,fun j c hj=>?_⟩
  rw[List.getElem?_set]at hj
  split at hj
  ·rename_i SD
   subst SD
   split at hj
   ·cases hj;exact⟨cv,k1,k2,k3,by simp⟩
   ·cases hj
  ·rename_i SD
   obtain⟨u,a1,a2,a3,a4⟩:=hold j c hj
   exact⟨u,a1,a2,a3,fun h=>hk _ _ _ (Ne.symm SD) (a4 h)⟩
 refine⟨cv,w,bn,?_⟩
 by_cases hk:ow=Eh
 ·subst hk
  have cB:=k4 rfl
  refine⟨C,uv ω v cv d,ax.le_refl C,?_,?_,k3,fun _=>Mw cB⟩
  ·exact m.dw hu hr _ (fun b' j y u eZ hz=>xi cB (by simp[eZ]) hz) (gd _ fun j c u hj hz=>xi cB (by simp[hj]) hz)
  ·exact fun t x hx=>let ⟨u,k1,k2,k3⟩:=e t x hx; ⟨u,k1,k2,fun h=>xi cB (by simp) (k3 h)⟩
 ·refine⟨C,ω,ax.le_refl C,m.dw hu hr _ (fun _ _ _ _ _ h=>h) (gd _ fun _ _ _ _ h=>h),e,k3,fun h=>absurd h hk⟩
end
end Go.Abs
