/- Operations that make a new slice. -/
import Derived.Test.YtimdocpnkimlfaaGreatDoorAbsA
set_option linter.unusedVariables false
set_option linter.unusedSimpArgs false
open Option renaming some→I,map_eq_some_iff→En,none→Ey,isSome_none→If,isSome_iff_exists→J6
open Bool renaming false→Gn,true→Gp,and_eq_true→Hj,false_eq_true→Hu,or_false→Ze
open Nat renaming eq_of_beq_eq_true→Gs,le_refl→Ha,mul_le_mul_right→Hh,beq→Hm,le_trans→Hz,add_mul→J1,le_of_ble_eq_true→J2,mul_le_mul→J4,beq_refl→V3,mul_eq_zero→V4,ble→Xo,succ_mul→X5,add_zero→X6,zero_add→Yh,blt_eq→Y8,blt→Zk
open List renaming replicate→G5,getElem?_append_left→G6,getElem?_eq_some_iff→G7,getElem?_append_right→G9,getElem?_eq_getElem→Hc,getElem?_toArray→Hd,getElem?_set_self→Hq,getElem?_take_of_lt→Hv,mem_of_getElem?→Hx,append_assoc→Ia,getElem?_set_ne→Ib,replicate_succ→Ic,mem_replicate→Ie,mem_append→Ig,getElem?_map→Ih,getElem?_eq_none→Jp,flatMap_cons→J0,length_set→J5,length_append→J7,getElem?_cons_zero→J8,getElem?_cons_succ→J9,flatten_cons→Mj,size_toArray→Ml,mem_of_mem_take→Mn,getElem?_of_mem→Mq,nil_append→Mt,getElem?_drop→Mv,ext_getElem?→Mx,all_eq_true→St,mem_flatten→V0,mem_map→V1,mem_cons_of_mem→Xn,flatMap_append→Xp,getElem?_take→X3,mem_cons_self→X4,set_set→Yg,getElem?_set→Y0,length_take→Y1,length_map→Y4,mem_cons→Zd,take→Zi,map_cons→Zj
open Array renaming getElem?_toList→Hb,getD_eq_getD_getElem?→He,getElem?_eq_some_iff→Hl,ext'→Hp,range→Hr,getElem?_append_left→Hy,size_append→Oz
open Ne renaming symm→N9
namespace Go.Abs
section
variable {P:Program}{C C0:aH}{ω:Nat→Option Loc}{w w0:World}{hp:qh}{env:Env}{a:Act}{o:Oper}{tmps:Array Value}{d:Loc}
theorem ak.strip {B}(e:ak C ω w B env tmps)(s:Option Nat):ak C ω w B (yf env s) tmps:=by
 cases s with
 |none=>exact e
 |some s=>
  simp only[yf]
  split
  ·rename_i v o hl
   intro t x hx
   simp only[jj]at hx
   cases hb:Hm s t with
   |false=>rw[hb]at hx;simp at hx;exact e t x hx
   |true=>
    rw[hb]at hx
    simp at hx
    subst hx
    obtain rfl:=Gs hb
    obtain⟨u,h1,h2,_⟩:=e s _ hl
    exact⟨u,h1,h2,by simp⟩
  ·exact e
theorem q4y (m:ax P C ω w0 C0 hp w)(e:ak C ω w w0.heap.size env tmps){x v}(h:bN C x v):zq P C0 w0 C tmps d env ⟨x,Gn,Ey,hp⟩ v w:=
 ⟨C,ω,aH.le_refl C,m,e,h,by simp⟩
theorem L7 (m:ax P C ω w0 C0 hp w)(e:ak C ω w w0.heap.size env tmps)(cells:Array Value)(t:TypeId)(xs:List AVal)(sz cap:Nat)(vs:List Value)(hr:aV C (xs.flatMap AVal.flat) vs)
  (hv:∀(j:Nat) v,vs[j]?=I v→cells[j]?=I v) (h1:∀v∈vs,v.oneCell'=Gp) (hs:∀x∈xs,x.flat.length=sz) (hcap:xs.length≤cap) (cJ:cap*sz≤cells.size) (s:Option Nat):
  zq P C0 w0 C tmps d env ⟨.list Gn sz xs,Gp,s,hp⟩ (.slice (I ⟨w.heap.size,0,Ey⟩) xs.length cap) (w.alloc (.cells cells t)):=by
 have hn:∀o,C.K w.heap.size o=Ey:=m.jX _ (Ha _)
 have hx:Ext w (w.alloc (.cells cells t)):=Ext.alloc w _ (fun c t fr h=>by cases h;rfl)
 have m1:=(m.newRow cells t vs hv h1)
 have U6:∀ℓ x v,aI C ω w w0.heap.size ℓ x v→aI (C.put w.heap.size 0 vs) (cQ ω w.heap.size d) (w.alloc (.cells cells t)) w0.heap.size ℓ x v:=fun ℓ x v ho=>((ho.fresh (Ha _)).put vs (.inl (Ha _))).ext hx
 have hle:=aH.gL (C:=C) (off:=0) vs (fun o _=>hn o)
 have hcells:=aH.fB (C:=C) (off:=0) (fun o _=>hn o) hr
 have hl:vs.length=xs.length*sz:=by rw[hr.length,yn xs hs]
 refine⟨C.put w.heap.size 0 vs,cQ ω w.heap.size d,hle,?_,?_,?_,?_⟩
 ·exact { m1 with box:=fun b x r eR hb=>((m.box b x r eR hb).mono hle fun j y v ho=>(ho.fresh (Ha _)).put vs (.inl (Ha _))).ext hx }
 ·refine ak.strip ?_ s
  exact fun t x hx=>let ⟨v,h1,h2,h3⟩:=e t x hx; ⟨v,h1,aC.mono hle h2,fun h=>U6 _ _ _ (h3 h)⟩
 ·exact .list _ _ _ _ _ hcap (bu.fa hcells hs)
 ·intro _
  refine⟨by simp[cQ],.inl m.size,?_,rfl,rfl,⟨cells,t,by rw[wH,if_pos rfl],by simpa using cJ,fb.sized hs⟩,?_⟩
  ·intro b hb
   have:=(m.lt b _ hb).1
   simp at this
  ·intro o ho
   simp only[aH.put]
   rw[if_neg (by simp at ho;omega)]
   exact hn o
theorem L8 {zs:List Value}{sz}(hz:zs.length=sz)(hs:0<sz):∀(n:Nat),(List.range (n*sz)).map (fun i=>zs.toArray[i % zs.toArray.size]!)=(G5 n zs).flatten
 |0=>by simp
 |n+1=>by
  rw[X5,List.range_add,List.map_append,L8 hz hs n,List.replicate_succ',List.flatten_append]
  congr 1
  simp only[List.map_map,Mj,List.flatten_nil,List.append_nil]
  apply Mx
  intro j
  rw[Ih]
  by_cases hj:j<sz
  ·rw[List.getElem?_range hj]
   simp only[Option.map_some,Function.comp,Ml,hz]
   rw[Nat.mul_add_mod_self_right,Nat.mod_eq_of_lt hj]
   rw[Hc (by omega),getElem!_pos _ _ (by simpa[hz]using hj)]
   simp
  ·rw[Jp (by simpa using hj),Jp (by omega)]
   rfl
theorem aV.replicate {zs vs}(h:aV C zs vs):∀n:Nat,aV C (G5 n zs).flatten (G5 n vs).flatten
 |0=>.nil
 |n+1=>by
  rw[Ic,Ic,Mj,Mj]
  exact aV.append h (aV.replicate h n)
def vo (sz:Nat)(zero:List AVal):AVal:=bif Hm sz 1 then zero.headD .undef else .agg zero
theorem U7 {sz zero}(hz:zero.length=sz)(hs:∀z∈zero,z.isAgg=Gn):(vo sz zero).flat=zero:=by
 unfold vo
 cases hb:Hm sz 1 with
 |false=>rfl
 |true=>
  obtain rfl:=Gs hb
  obtain⟨z,rfl⟩:=List.length_eq_one_iff.1 hz
  exact qa4 (hs z (by simp))
theorem qmq {sz zero}(hz:zero.length=sz)(hs:∀z∈zero,z.isAgg=Gn)(n:Nat):(G5 n (vo sz zero)).flatMap AVal.flat=(G5 n zero).flatten:=by
 induction n with
 |zero=>rfl
 |succ n ih=>rw[Ic,J0,U7 hz hs,ih,Ic,Mj]
theorem q09 {v x}(h:Et v=I x):qk x=Gp∧v.oneCell'=Gp:=by
 unfold Et at h
 split at h<;>first|cases h|skip
 all_goals exact⟨rfl,rfl⟩
theorem qmu:∀ {vs:List Value} {xs:List AVal},wG vs=I xs→(∀x∈xs,qk x=Gp)∧∀v∈vs,v.oneCell'=Gp
 | [],xs,h=>by simp[wG]at h;subst h;simp
 |v::vs,xs,h=>by
  simp only[wG]at h
  split at h
  ·rename_i x hx
   split at h
   ·rename_i ys nx
    cases h
    obtain⟨h1,h2⟩:=q09 hx
    obtain⟨h3,h4⟩:=qmu nx
    exact⟨by simpa using⟨h1,h3⟩,by simpa using⟨h2,h4⟩⟩
   ·cases h
  ·cases h
theorem ql4 {x}(h:qk x=Gp):x.isAgg=Gn:=by cases x<;>simp[qk,AVal.isAgg]at *
theorem vp {t:TypeId}{z}(h:yw P t=I z):(∀x∈z,qk x=Gp)∧∃v,(∀w,(zeroValue t).run P w=.ok v w)∧aV C z v.cells.toList∧∀u∈v.cells.toList,u.oneCell'=Gp:=by
 unfold yw at h
 split at h
 ·rename_i i hi
  split at h
  ·rename_i v hv
   obtain⟨h1,h2⟩:=qmu h
   exact⟨h1,v,fun w=>by simp[zeroValue,typeInfo,hi,hv],LY C h,h2⟩
  ·cases h
 ·cases h
theorem U8 {x v}(h:bN C x v)(hs:qk x=Gp):v.oneCell'=Gp:=by
 cases h<;>first|rfl|(simp[qk]at hs)
theorem Bk {xs}:∀ {vs:List Value},aV C xs vs→(∀x∈xs,qk x=Gp)→∀v∈vs,v.oneCell'=Gp:=by
 induction xs with
 |nil=>intro vs h _ v hv;cases h;cases hv
 |cons x xs ih=>
  intro vs h hs v hv
  cases h with
  |cons _ _ u us hx h=>
   rcases Zd.1 hv with rfl|hv
   ·exact U8 hx (hs x (by simp))
   ·exact ih h (fun y hy=>hs y (by simp[hy])) v hv
theorem q0k:∀ (qs:List (Nat×List AVal)) (xs ys:List AVal),jW xs qs=I ys→(∀x∈xs,qk x=Gp)→(∀q∈qs,∀x∈q.2,qk x=Gp)→∀y∈ys,qk y=Gp
 | [],xs,ys,h,hx,_=>by simp[jW]at h;subst h;exact hx
 |(off,vs)::qs,xs,ys,h,hx,hq=>by
  simp only[jW]at h
  cases hb:Xo (off+vs.length) xs.length with
  |false=>simp[hb]at h
  |true=>
   simp only[hb,cond_true]at h
   refine q0k qs _ ys h ?_ (fun q h=>hq q (by simp[h]))
   intro x h
   simp only[Ig]at h
   rcases h with(h|h)|h
   ·exact hx x (Mn h)
   ·exact hq (off,vs) (by simp) x h
   ·exact hx x (List.mem_of_mem_drop h)
theorem qjp {sz}:∀(ps:List (Nat×jx)) (qs:List (Nat×AVal)),yi env sz ps=I qs→∀q∈qs,∀x∈q.2.flat,qk x=Gp
 | [],qs,h=>by simp[yi]at h;subst h;simp
 |(i,x)::ps,qs,h=>by
  simp only[yi]at h
  split at h
  ·rename_i v mI
   cases hb:(Hm v.flat.length sz&&v.flat.all qk)with
   |false=>simp[hb]at h
   |true=>
    simp only[hb,cond_true]at h
    simp only[Hj,St]at hb
    split at h
    ·rename_i r hr
     cases h
     intro q hq
     rcases Zd.1 hq with rfl|hq
     ·exact hb.2
     ·exact qjp ps r hr q hq
    ·cases h
  ·cases h
theorem qmd (e:ak C ω w w0.heap.size env a.tmps){t el:TypeId}{ps len sz z gf qs xs}
  (ho:o.op=.buildSlice t len ps) (ht:P.underlying t=I (.slice el)) (hn:js P el=I sz) (hz:yw P el=I z) (hlen:sz*len≤65536) (h0:0<sz) (iz:z.length=sz)
  (mK:yN ps.toList=I gf) (hq:yi env sz gf=I qs) (hx:lH (G5 len (vo sz z)) qs=I xs):
  ∃ds,(execOp a.eval o).run P w=.ok (.value (.slice (I ⟨w.heap.size,0,Ey⟩) len len)) (w.alloc (.cells ds el))∧aV C (xs.flatMap AVal.flat) ds.toList∧(∀v∈ds.toList,v.oneCell'=Gp)∧(∀x∈xs,x.flat.length=sz)∧xs.length=len∧len*sz≤ds.size:=by
 obtain⟨qQ,zv,lz,cT,lN⟩:=vp (C:=C) hz
 have yS:∀x∈z,x.isAgg=Gn:=fun x h=>ql4 (qQ x h)
 have nz:zv.cells.toList.length=sz:=by rw[cT.length,iz]
 have jZ:((Hr (len*sz)).map (fun i=>zv.cells[i % zv.cells.size]!)).toList=(G5 len zv.cells.toList).flatten:=by
  have:=L8 nz h0 len
  simpa using this
 obtain⟨qU,hqs⟩:=qo7 e.cq ps.toList gf qs mK hq
 obtain⟨hf,nA,ny⟩:=qu8 (sz:=sz) qs _ xs hx (by
  intro x h
  obtain⟨_,rfl⟩:=Ie.1 h
  rw[U7 iz yS,iz]) hqs
 rw[qmq iz yS]at hf
 obtain⟨ds,hd,hdr⟩:=L6 _ _ _ _ ((Hr (len*sz)).map (fun i=>zv.cells[i % zv.cells.size]!)) (by rw[jZ];exact cT.replicate len) hf qU
 have kA:xs.length=len:=by simpa using ny
 have hsc:∀y∈xs.flatMap AVal.flat,qk y=Gp:=q0k _ _ _ hf (by
  intro x h
  rw[V0]at h
  obtain⟨l,h1,h2⟩:=h
  obtain⟨_,rfl⟩:=Ie.1 h1
  exact qQ x h2) (by
  intro q hq1 x Bg
  obtain⟨p,kB,rfl⟩:=V1.1 hq1
  exact qjp gf qs hq p kB x Bg)
 have Bl:ds.toList.length=len*sz:=by rw[hdr.length,yn xs nA,kA]
 refine⟨ds,?_,hdr,Bk hdr hsc,nA,kA,by simp at Bl;omega⟩
 ·have vn:(ps.map fun(x:Nat×Operand)=>(x.1,a.eval x.2)).toList=ps.toList.map fun x=>(x.1,a.eval x.2):=by simp
  have hle:¬(16777216<len*sz):=by rw[Nat.mul_comm];omega
  by_cases Gt:len=0
  ·subst Gt
   have hr:Hr 0=#[]:=rfl
   rw[Nat.zero_mul,hr,Array.map_empty]at hd
   simp only[execOp,ho,Instr.buildSlice,Sem.run_bind,run_underlying ht,Result.andThen_ok,yo hn,vn]
   simp[hr,hd,newRow]
  ·have bB:¬(len*sz=0):=by
    intro h
    rcases V4.1 h with h|h<;>omega
   simp only[execOp,ho,Instr.buildSlice,Sem.run_bind,run_underlying ht,Result.andThen_ok,yo hn,vn]
   simp[hle,bB,lz,hd,newRow]
theorem qza (m:ax P C ω w0 C0 hp w)(e:ak C ω w w0.heap.size env a.tmps){t el:TypeId}{ps len sz z gf qs xs}
  (ho:o.op=.buildSlice t len ps) (ht:P.underlying t=I (.slice el)) (hn:js P el=I sz) (hz:yw P el=I z) (hlen:sz*len≤65536) (h0:0<sz) (iz:z.length=sz)
  (mK:yN ps.toList=I gf) (hq:yi env sz gf=I qs) (hx:lH (G5 len (vo sz z)) qs=I xs):
  ∃v w',(execOp a.eval o).run P w=.ok (.value v) w'∧zq P C0 w0 C a.tmps d env ⟨.list Gn sz xs,Gp,Ey,hp⟩ v w':=by
 obtain⟨ds,bE,hdr,h1,nA,kA,cJ⟩:=qmd (C:=C) (ω:=ω) (w:=w) (w0:=w0) e ho ht hn hz hlen h0 iz mK hq hx
 refine⟨_,_,bE,?_⟩
 have fg:=L7 (d:=d) (tmps:=a.tmps) m e ds el xs sz len ds.toList hdr (by intro j v h;simpa using h) h1 nA (by omega) cJ Ey
 rw[kA]at fg
 exact fg
theorem q7s (m:ax P C ω w0 C0 hp w)(e:ak C ω w w0.heap.size env a.tmps){t el:TypeId}{x y:Operand}{x' y':jx}{n sz b:Nat}{z}
  (ho:o.op=.makeSlice t x y) (ht:P.underlying t=I (.slice el)) (hn:js P el=I sz) (hb:oh P el=I b) (hz:yw P el=I z) (h0:0<sz) (iz:z.length=sz)
  (h1:qu x=I x') (h2:qu y=I y') (e1:qi env x'=I (.int .i64 (n:Int))) (e2:qi env y'=I (.int .i64 (n:Int))) (hle:n≤1073741824) (jN:b≤4096):
  ∃v w',(execOp a.eval o).run P w=.ok (.value v) w'∧zq P C0 w0 C a.tmps d env ⟨.list Gn sz (G5 n (vo sz z)),Gp,Ey,hp⟩ v w':=by
 obtain⟨qQ,zv,lz,cT,lN⟩:=vp (C:=C) hz
 have yS:∀x∈z,x.isAgg=Gn:=fun x h=>ql4 (qQ x h)
 have nz:zv.cells.toList.length=sz:=by rw[cT.length,iz]
 have jZ:((Hr (n*sz)).map (fun i=>zv.cells[i % zv.cells.size]!)).toList=(G5 n zv.cells.toList).flatten:=by
  have:=L8 nz h0 n
  simpa using this
 have r1:=(qw e.cq h1 e1).bO
 have r2:=(qw e.cq h2 e2).bO
 have nA:∀x∈G5 n (vo sz z),x.flat.length=sz:=by
  intro x h
  obtain⟨_,rfl⟩:=Ie.1 h
  rw[U7 iz yS,iz]
 have gq:aV C ((G5 n (vo sz z)).flatMap AVal.flat) ((Hr (n*sz)).map (fun i=>zv.cells[i % zv.cells.size]!)).toList:=by
  rw[qmq iz yS,jZ];exact cT.replicate n
 obtain⟨i,hi,qV⟩:∃i,P.info? el=I i∧i.bytes=b:=by
  unfold oh at hb
  cases hi:P.info? el with
  |none=>simp[hi]at hb
  |some i=>exact⟨i,rfl,by simpa[hi]using hb⟩
 have kQ:i.size=sz:=by
  unfold js at hn
  rw[hi]at hn
  simpa using hn
 have qW:IntKind.i64.wrap (n:Int)=n:=by
  rw[←Bf];unfold qe
  have:qM .i64 (n:Int)=Gp:=by simp[qM];exact Hz hle (by decide)
  rw[this];rfl
 have Bd:b*n≤281474976710656:=Hz (J4 jN hle) (by decide)
 have fg:=L7 (d:=d) (tmps:=a.tmps) m e ((Hr (n*sz)).map (fun i=>zv.cells[i % zv.cells.size]!)) el (G5 n (vo sz z)) sz n _ gq (by intro j v h;rw[Hb]at h;exact h) (by
   rw[jZ]
   intro v hv
   rw[V0]at hv
   obtain⟨l,q1,q2⟩:=hv
   obtain⟨_,rfl⟩:=Ie.1 q1
   exact lN v q2) nA (by simp) (by simp) Ey
 rw[List.length_replicate]at fg
 refine⟨_,_,?_,fg⟩
 have c1:¬((b:Int)*(n:Int) > 2^48):=by
  have h1:((b*n:Nat):Int)≤281474976710656:=Int.ofNat_le.2 Bd
  rw[Int.natCast_mul]at h1
  have h2:(2:Int)^48=281474976710656:=by decide
  rw[h2];omega
 have c2:¬((n:Int)<0):=by omega
 have hr:Hr 0=#[]:=rfl
 simp only[execOp,ho,Instr.makeSlice,Sem.run_bind,run_underlying ht,r1,r2,asInt,asIntOf,Sem.run_pure,Result.andThen_ok,typeInfo,run_program,hi,qV,qW,c2,c1,decide_false,Ze,Hu,if_false,Int.lt_irrefl,gt_iff_lt,run_askRoom,Int.toNat_natCast,yo hn,newRow]
 by_cases Bh:n=0
 ·subst Bh
  simp[hr]
 ·have bB:¬(n*sz=0):=by
   intro h
   rcases V4.1 h with h|h<;>omega
  simp[bB,lz]
end
structure gM (w w':World)(r:Nat)(cs:Array Value):Prop where
 at_:∃t,w'.heap[r]?=I (.cells cs t (0,0))
 size:w'.heap.size=w.heap.size
 other:∀k,k≠r→w'.heap[k]?=w.heap[k]?
 os:w'.os=w.os
 output:w'.output=w.output
theorem Gu {w r old}{t:TypeId}(h:w.heap[r]?=I (.cells old t (0,0)))(cs:Array Value):gM w (w.setRow r cs) r cs:=
 ⟨⟨t,setRow_heap w r old cs t (0,0) h⟩,setRow_size w r cs,fun k hk=>setRow_other w r k cs hk,rfl,rfl⟩
section
variable {P:Program}{C C0:aH}{ω:Nat→Option Loc}{w w' w0:World}{hp:qh}{env:Env}{a:Act}{o:Oper}{tmps:Array Value}{d:Loc}
theorem aI.iO {B r cs ℓ x v}(hu:gM w w' r cs)(hr:ω r≠I ℓ)(ho:aI C ω w B ℓ x v):aI C ω w' B ℓ x v:=by
 unfold aI at *
 split at ho
 ·rename_i a len cap
  obtain⟨h1,h2,h3,h4,h8,⟨cells,elem,h5,h6⟩,h7⟩:=ho
  refine⟨h1,h2,h3,h4,h8,⟨cells,elem,?_,h6⟩,h7⟩
  rw[hu.other _ (fun h=>hr (h▸h1))]
  exact h5
 ·rename_i a
  obtain⟨h1,h2,h3,h4,h8,⟨cells,elem,h5,h6⟩,h7⟩:=ho
  refine⟨h1,h2,h3,h4,h8,⟨cells,elem,?_,h6⟩,h7⟩
  rw[hu.other _ (fun h=>hr (h▸h1))]
  exact h5
 ·trivial
theorem bD.iO {B b r r' cs x}(hu:gM w w' r cs)(bB:r'≠r)(hr:∀j,ω r≠I (.cell b j))(hb:bD P C ω w B b r' x):bD P C ω w' B b r' x:=by
 have hg:=hu.other r' bB
 cases x with
 |hole=>exact hb
 |cells eK=>
  obtain⟨vs,elem,h1,h2,h3⟩:=hb
  exact⟨vs,elem,by rw[hg];exact h1,h2,fun j c hc=>let ⟨v,a,q,b,d⟩:=h3 j c hc; ⟨v,a,q,b,fun e=>(d e).iO hu (hr j)⟩⟩
 |map es=>obtain⟨cf,clock,h1,h2⟩:=hb;exact⟨cf,clock,by rw[hg];exact h1,h2⟩
 |iter s pos=>show w'.heap[r']?=_;rw[hg];exact hb
 |loop l=>obtain⟨lp,h1,h2⟩:=hb;exact⟨lp,by rw[hg];exact h1,h2⟩
 |gi t e l=>obtain⟨p,v,h1,h2,h3,h4⟩:=hb;exact⟨p,v,by rw[hg];exact h1,h2,h3,h4.iO hu (hr 1)⟩
 |dead=>obtain⟨cs,t,h1⟩:=hb;exact⟨cs,t,by rw[hg];exact h1⟩
 |vec sz bG xs=>exact eo.imp (fun _ _ _ h=>h) (fun _ h=>h) (fun _ h _=>h) hg (fun q n cap k=>⟨hu.other q (fun hq=>hr 0 (hq▸k.1)),k.iO hu (hr 0)⟩) hb
theorem qx9 (m:ax P C ω w0 C0 hp w)(e:ak C ω w w0.heap.size env tmps){r q cells}{t:TypeId}{news s}(hω:ω r=I (.slot s))(hB:w0.heap.size≤r∨C.W r)(hβ:∀b,C.β b≠I r)
  (hg:w.heap[r]?=I (.cells cells t (0,0))) (cJ:q+news.length≤cells.size) (hK:∀o,q≤o→C.K r o=Ey) (h1:∀v∈news,v.oneCell'=Gp):
  ax P (C.put r q news) (cQ ω r d) w0 C0 hp (w.setRow r (cells.toList.take q++news++cells.toList.drop (q+news.length)).toArray) ∧
  ak (C.put r q news) (cQ ω r d) (w.setRow r (cells.toList.take q++news++cells.toList.drop (q+news.length)).toArray) w0.heap.size (yf env (I s)) tmps∧C.le (C.put r q news):=by
 have hu:=Gu hg (cells.toList.take q++news++cells.toList.drop (q+news.length)).toArray
 generalize U9:w.setRow r (cells.toList.take q++news++cells.toList.drop (q+news.length)).toArray=w' at hu
 have hle:=aH.gL (C:=C) (off:=q) news hK
 have c5:∀ℓ x v,ℓ≠.slot s→aI C ω w w0.heap.size ℓ x v→aI (C.put r q news) (cQ ω r d) w' w0.heap.size ℓ x v:=by
  intro ℓ x v hℓ ho
  have bB:ω r≠I ℓ:=by rw[hω];intro h;exact hℓ (I.inj h).symm
  have h2:aI (C.put r q news) ω w' w0.heap.size ℓ x v:=(ho.put news (.inr bB)).iO hu bB
  exact h2.other (.inl bB)
 refine⟨?_,?_,hle⟩
 ·have Gv:=hu.size
  refine { base:=m.base,know:=?_,dv:=?_,apart:=?_,inj:=m.inj,lt:=?_,size:=?_,frame:=?_,fF:=?_,os:=hu.os.trans m.os,output:=hu.output.trans m.output,fresh:=m.fresh,grown:=aH.le_trans m.grown hle,old:=?_,box:=?_,iH:=fun q hq=>by rw[hu.size];exact m.iH q hq }
  ·intro b p v hk
   simp only[aH.put]at hk
   split at hk
   ·rename_i hc
    obtain⟨rfl,h2,h3⟩:=hc
    obtain⟨t',Gw⟩:=hu.at_
    simp only[World.cell?,Gw]
    rw[Hd,Ia,G9 (by simp;omega),G6 (by simp;omega)]
    have:(Zi q cells.toList).length=q:=by simp;omega
    rw[this]
    simpa using hk
   ·by_cases hb:b=r
    ·subst hb
     have br:p<q:=by
      rcases Nat.lt_or_ge p q with h|h
      ·exact h
      ·rw[hK p h]at hk;cases hk
     have hc:=m.know _ _ _ hk
     obtain⟨t',Gw⟩:=hu.at_
     simp only[World.cell?,hg]at hc
     simp only[World.cell?,Gw]
     simp only[If,Hu,if_false]at hc ⊢
     rw[Hd,Ia,G6 (by simp;omega),Hv br,Hb]
     exact hc
    ·have hc:=m.know _ _ _ hk
     simp only[World.cell?]at hc ⊢
     rw[hu.other b hb]
     exact hc
  ·intro b p v hk
   simp only[aH.put]at hk
   split at hk
   ·exact h1 v (Hx hk)
   ·exact m.dv b p v hk
  ·intro b p o hb
   simp only[aH.put]
   rw[if_neg]
   ·exact m.apart b p o hb
   ·rintro ⟨rfl,_⟩;exact hβ b hb
  ·intro b p hb
   rw[Gv];exact m.lt b p hb
  ·rw[Gv];exact m.size
  ·intro k hk hn hw
   have iA:k≠r:=fun h=>by
    subst h
    rcases hB with h|h
    ·omega
    ·rw[m.grown.w]at h;exact hw h
   rw[hu.other k iA];exact m.frame k hk hn hw
  ·intro k hk
   have iA:k≠r:=fun h=>by
    subst h
    have:=m.fF k hk
    rw[hg]at this;cases this
   rw[hu.other k iA];exact m.fF k hk
  ·intro k o hk hw
   have iA:k≠r:=fun h=>by
    subst h
    rcases hB with h|h
    ·omega
    ·rw[m.grown.w]at h;exact hw h
   simp only[aH.put]
   rw[if_neg (by rintro ⟨h,_⟩;exact iA h)]
   exact m.old k o hk hw
  ·intro b x p hx hb
   have bB:p≠r:=fun h=>hβ b (h▸hb)
   have vq:=m.box b x p hx hb
   have kC:bD P C ω w' w0.heap.size b p x:=vq.iO hu bB (fun j=>by rw[hω];simp)
   refine kC.mono hle fun j y v ho=>?_
   have lP:ω r≠I (.cell b j):=by rw[hω];simp
   exact(ho.put news (.inr lP)).other (.inl lP)
 ·intro t x hx
  have hlk:∃v o,jj s env=I (v,o)∨jj s env=Ey:=by
   cases h:jj s env with
   |none=>exact⟨.undef,Gn,.inr rfl⟩
   |some x=>exact⟨x.1,x.2,.inl rfl⟩
  by_cases lQ:t=s
  ·subst lQ
   simp only[yf]at hx
   cases hl:jj t env with
   |none=>rw[hl]at hx;simp only[hl]at hx;cases hx
   |some y=>
    rw[hl]at hx
    simp only[jj,V3,cond_true]at hx
    cases hx
    obtain⟨v,h2,h3,_⟩:=e t y hl
    exact⟨v,h2,aC.mono hle h3,by simp⟩
  ·have eR:jj t env=I x:=by
    simp only[yf]at hx
    cases hl:jj s env with
    |none=>rw[hl]at hx;exact hx
    |some y=>
     rw[hl]at hx
     simp only[jj]at hx
     have:Hm s t=Gn:=by
      cases hb:Hm s t with
      |false=>rfl
      |true=>exact absurd (Gs hb).symm lQ
     rw[this]at hx
     exact hx
   obtain⟨v,h2,h3,h4⟩:=e t x eR
   exact⟨v,h2,aC.mono hle h3,fun h=>c5 _ _ _ (by simp[lQ]) (h4 h)⟩
theorem Va {t tx ty e:TypeId}{i:TypeInfo}(ht:P.underlying t=I (.slice e))(hi:P.info? e=I i)(r off nB Bm:Nat)(x:Value)(n:Nat)(news:List Value)(hs:Src P i.size tx x n news w)(eC:nB+n≤Bm)
  {cells} {te:TypeId} (hg:w.heap[r]?=I (.cells cells te (0,0))) (cJ:off+nB*i.size+news.length≤cells.size):
  (Builtin.append_ #[t,tx] ty #[.slice (I ⟨r,off,Ey⟩) nB Bm,x]).run P w =
   .ok (.slice (I ⟨r,off,Ey⟩) (nB+n) Bm) (w.setRow r (cells.toList.take (off+nB*i.size)++news++cells.toList.drop (off+nB*i.size+news.length)).toArray):=by
 have ct:=run_storeCells_at (P:=P) r (off+nB*i.size) te news 0 cells w hg (by simpa using cJ) hs.one
 simp only[X6]at ct
 rcases hs.kind with⟨e',hk⟩|hk<;>simp[Builtin.append_,run_underlying ht,run_underlying hk,sizeOf,typeInfo,hi,hs.len,eC,hs.cells,Addr.add_lit,ct]
theorem qlm {t tx ty e:TypeId}{i:TypeInfo}(ht:P.underlying t=I (.slice e))(hi:P.info? e=I i)(x:Value)(hs:Src P i.size tx x 0 [] w):
  (Builtin.append_ #[t,tx] ty #[.slice Ey 0 0,x]).run P w=.ok (.slice Ey 0 0) w:=by
 rcases hs.kind with⟨e',hk⟩|hk<;>simp[Builtin.append_,run_underlying ht,run_underlying hk,sizeOf,typeInfo,hi,hs.len,hs.cells]
theorem L9 (m:ax P C ω w0 C0 hp w){u:TypeId}{ut:TypeDesc}{sz vy ys v}(hu:P.underlying u=I ut)(jO:A6 ut=Gp)(h:z7 sz vy=I ys)(hr:bN C vy v):
  ∃news,Src P sz u v ys.length news w∧aV C (ys.flatMap AVal.flat) news∧(∀y∈ys,y.flat.length=sz)∧∀x∈news,x.oneCell'=Gp:=by
 have hk:(∃e',P.underlying u=I (.slice e'))∨P.underlying u=I .string:=by
  cases ut<;>simp[A6]at jO
  ·exact .inr hu
  ·exact .inl ⟨_,hu⟩
 cases vy with
 |list n sy oq=>
  simp only[z7]at h
  cases hb:(Hm sz sy||oq.isEmpty)with
  |false=>simp[hb]at h
  |true=>
   simp only[hb,cond_true,I.injEq]at h
   subst h
   rcases hr.de with⟨rfl,rfl,rfl⟩|⟨rfl,r,q,cap,rfl,_,du⟩|⟨rfl,rfl,ad,_,rfl⟩
   ·exact⟨[],⟨hk,fun _=>rfl,run_firstCells_none w sz 0 0 0,run_firstCells_none w.drew sz 0 0 0,by simp,by simp⟩,.nil,by simp,by simp⟩
   ·obtain⟨news,h1,h2⟩:=cB.vals du.cells
    have h3:∀x∈news,x.oneCell'=Gp:=fun x hx=>by
     obtain⟨j,hj⟩:=Mq hx
     exact m.dv _ _ _ (h2 j x hj)
    have db:∀y∈oq,y.flat.length=sz:=by
     intro y hy
     rcases Bool.or_eq_true _ _▸hb with hb|hb
     ·rw[Gs hb];exact du.sized y hy
     ·rw[List.isEmpty_iff.1 hb]at hy;cases hy
    have hl:news.length=oq.length*sz:=by rw[h1.length,yn oq db]
    have hc:∀j u,news[j]?=I u→w.cell? ((⟨r,q,Ey⟩:Addr).add j)=I u:=fun j u hj=>by rw[add_lit];exact m.know _ _ _ (h2 j u hj)
    refine⟨news,⟨hk,fun _=>rfl,run_firstCells_some w sz _ _ _ _ news hl hc,run_firstCells_some w.drew sz _ _ _ _ news hl (by simpa using hc),hl,h3⟩,h1,db,h3⟩
   ·exact⟨[],⟨hk,fun _=>rfl,run_firstCells_some w sz _ _ _ _ [] (by simp) (by simp),run_firstCells_some w.drew sz _ _ _ _ [] (by simp) (by simp),by simp,by simp⟩,.nil,by simp,by simp⟩
 |str s=>
  simp only[z7]at h
  cases hb:Hm sz 1 with
  |false=>simp[hb]at h
  |true=>
   simp only[hb,cond_true,I.injEq]at h
   obtain rfl:=Gs hb
   subst h
   obtain rfl:=hr.cy
   have kD:∀l:List UInt8,(l.map fun(c:UInt8)=>AVal.int .u8 c.toNat).flatMap AVal.flat=l.map fun(c:UInt8)=>AVal.int .u8 c.toNat:=by
    intro l;induction l with
    |nil=>rfl
    |cons c l ih=>simp only[Zj,J0,ih];rfl
   have gq:∀l:List UInt8,aV C (l.map fun(c:UInt8)=>AVal.int .u8 c.toNat) (l.map fun b=>Value.int .u8 b.toNat):=by
    intro l;induction l with
    |nil=>exact .nil
    |cons c l ih=>exact .cons _ _ _ _ (.int _ _) ih
   refine⟨byteCells ⟨⟨s⟩⟩,⟨hk,fun w'=>by simp[Builtin.lenOf];rfl,?_,?_,?_,?_⟩,?_,?_,?_⟩
   ·rw[Y4];exact firstCells_string (P:=P) ⟨⟨s⟩⟩ w
   ·rw[Y4];exact firstCells_string (P:=P) ⟨⟨s⟩⟩ w.drew
   ·simp[byteCells]
   ·intro u hu;obtain⟨_,_,rfl⟩:=V1.1 hu;rfl
   ·rw[kD];simpa[byteCells]using gq s
   ·intro y hy;obtain⟨_,_,rfl⟩:=V1.1 hy;rfl
   ·intro u hu;obtain⟨_,_,rfl⟩:=V1.1 hu;rfl
 |_=>simp[z7]at h
theorem Gx {x s}(h:zu env x=I s):x=.tmp s∧∃v,jj s env=I (v,Gp):=by
 unfold zu at h
 split at h
 ·split at h
  ·rename_i t v hl
   cases h
   exact⟨rfl,v,hl⟩
  ·cases h
 ·cases h
theorem q44 (e:ak C ω w w0.heap.size env a.tmps){x x' sz len cap xs ad}(h1:qu x=I x')(c5:(zu env x').isSome=Gp)(e1:qi env x'=I (.list Gn sz xs))(hx:a.eval x=.slice (I ad) len cap):ad.spot=Ey:=by
 obtain⟨s,hJ⟩:=J6.1 c5
 obtain⟨eR,v0,hl⟩:=Gx hJ
 have jD:v0=.list Gn sz xs:=by
  subst eR
  simp only[qi,hl]at e1
  exact I.inj e1
 subst jD
 obtain⟨cv,yT,Ma,Bn⟩:=e s _ hl
 have oV:cv=.slice (I ad) len cap:=by
  have iP:qu x=I (.tmp s):=by rw[h1,eR]
  cases x with
  |tmp t'=>
   simp only[qu]at iP
   cases iP
   have:a.eval (.tmp s)=cv:=by simp[Act.eval,He,yT]
   rw[←this,hx]
  |const u=>simp only[qu]at iP;split at iP<;>cases iP
  |func f=>simp[qu]at iP
  |global g=>simp[qu]at iP
 subst oV
 exact(Bn rfl).2.2.2.1
theorem jb6 (m:ax P C ω w0 C0 hp w)(e:ak C ω w w0.heap.size env a.tmps){c}{t u el:TypeId}{ut:TypeDesc}{x y x' y' sz b n dq xs ys vy}
  (ho:o.op=.call c) (eg:c.callee=.builtin .append) (eu:c.args.toList=[x,y]) (eS:c.argTypes.toList=[t,u]) (ht:P.underlying t=I (.slice el)) (hu:P.underlying u=I ut) (jO:A6 ut=Gp)
  (hn:js P el=I sz) (hb:oh P el=I b) (h1:qu x=I x') (h2:qu y=I y') (e1:qi env x'=I (.list n dq xs)) (e2:qi env y'=I vy) (cW:z7 sz vy=I ys)
  (c5:n=Gp∨(zu env x').isSome=Gp) (Bo:sz=dq∨(xs=[]∧n=Gp)) (hlen:xs.length+ys.length≤1073741824) (jN:b≤4096) (hzero:∃z,yw P el=I z∧z.length=sz):
  ∃v w',(execOp a.eval o).run P w=.ok (.value v) w'∧zq P C0 w0 C a.tmps d env ⟨qN n sz xs ys,Gp,zu env x',hp⟩ v w':=by
 have ha:c.args=#[x,y]:=by apply Hp;simpa using eu
 have lM:c.argTypes=#[t,u]:=by apply Hp;simpa using eS
 obtain⟨i,hi,qV⟩:∃i,P.info? el=I i∧i.bytes=b:=by
  unfold oh at hb
  cases hi:P.info? el with
  |none=>simp[hi]at hb
  |some i=>exact⟨i,rfl,by simpa[hi]using hb⟩
 have kQ:i.size=sz:=by
  unfold js at hn;rw[hi]at hn;simpa using hn
 obtain⟨z,hz,Bp⟩:=hzero
 obtain⟨zv,nC⟩:∃zv,i.zero=I zv:=by
  unfold yw at hz;rw[hi]at hz
  cases hq:i.zero with
  |none=>simp[hq]at hz
  |some v=>exact⟨v,rfl⟩
 have rx:=qw e.cq h1 e1
 have ry:=qw e.cq h2 e2
 obtain⟨news,hs,df,fW,dh⟩:=L9 m hu jO cW ry
 have fh:∀ {z:Value} {w':World},(Builtin.append_ #[t,u] o.type #[a.eval x,a.eval y]).run P w=.ok z w'→(execOp a.eval o).run P w=.ok (.value z) w':=by
  intro z w' h
  simp[execOp,ho,resolve,eg,ha,lM,invoke,builtin,h]
 have nD:news.length=ys.length*sz:=by rw[df.length,yn ys fW]
 -- a new row
 have grow:∀(base:Option Addr) (cap:Nat) (eM:List Value),a.eval x=.slice base xs.length cap→cap<xs.length+ys.length→(∀(w':World),w'=w.drew→(Builtin.firstCells i.size xs.length (.slice base xs.length cap)).run P w'=.ok eM.toArray w') →
   aV C (xs.flatMap AVal.flat) eM→(∀v∈eM,v.oneCell'=Gp)→(∀x∈xs,x.flat.length=sz) →
   ∃v w',(execOp a.eval o).run P w=.ok (.value v) w'∧zq P C0 w0 C a.tmps d env ⟨.list Gn sz (xs++ys),Gp,zu env x',hp⟩ v w':=by
  intro base cap eM qX hcap hold yU Gy oW
  have cJ:Builtin.nextslicecap (xs.length+ys.length) cap*i.bytes≤281474976710656:=growslice_fits hcap (by
   rw[qV]
   exact Hz (J4 hlen jN) (by decide))
  have bE:=run_append_grow_src w t u o.type el i zv ht hi nC base xs.length cap eM (hold _ rfl) (a.eval y) ys.length news (kQ▸hs) hcap (by omega) cJ
  rw[←qX]at bE
  refine⟨_,_,fh bE,?_⟩
  have hx:Ext w w.drew:=Ext.drew w
  have vr:=grownCap_ge w (xs.length+ys.length) cap el
  have iz:zv.cells.size=sz:=by
   obtain⟨_,zv',lN,Gz,_⟩:=vp (C:=C) hz
   have:=lN w
   simp[zeroValue,typeInfo,hi,nC]at this
   subst this
   have:=Gz.length
   simp at this
   omega
  have fg:=L7 (d:=d) (tmps:=a.tmps) (m.ext hx) (e.ext hx) ((eM++news).toArray++Builtin.zeroCells zv.cells (grownCap w (xs.length+ys.length) cap el-(xs.length+ys.length))) el (xs++ys) sz (grownCap w (xs.length+ys.length) cap el) (eM++news)
   (by rw[Xp];exact aV.append yU df) (by
    intro j v hj
    rw[Hy (by simpa using(G7.1 hj).1)]
    simpa using hj) (by
    intro v hv
    rcases Ig.1 hv with hv|hv
    ·exact Gy v hv
    ·exact dh v hv) (by
    intro x hx
    rcases Ig.1 hx with hx|hx
    ·exact oW x hx
    ·exact fW x hx) (by rw[J7];exact vr) (by
    have ho:=yU.length
    rw[yn xs oW]at ho
    simp[Builtin.zeroCells,iz,ho,nD]
    rw[←J1,←J1]
    exact Hh _ (by omega)) (zu env x')
  rw[J7]at fg
  exact fg
 rcases rx.de with⟨rfl,rfl,hx⟩|⟨rfl,r,q,cap,hx,hle,du⟩|⟨rfl,rfl,ad,mJ,hx⟩
 rotate_right
 ·exact absurd (q44 e h1 (by rcases c5 with h|h<;>first|cases h|exact h) e1 hx) mJ
 ·-- nil
  cases ys with
  |nil=>
   have:news=[]:=by cases df;rfl
   subst this
   refine⟨.slice Ey 0 0,w,fh ?_,C,ω,aH.le_refl C,m,e.strip _,by simpa[qN]using aC.jL 0,fun _=>trivial⟩
   rw[hx]
   exact qlm ht hi _ (kQ▸hs)
  |cons y1 ys1=>
   have:=grow Ey 0 [] hx (by simp) (fun w' _=>run_firstCells_none w' _ _ _ _) .nil (by simp) (by simp)
   simpa[qN]using this
 ·-- own
  rw[show qN Gn sz xs ys=.list Gn sz (xs++ys)from rfl]
  have GD:(zu env x').isSome=Gp:=by rcases c5 with h|h<;>first|cases h|exact h
  obtain⟨s,hJ⟩:=J6.1 GD
  obtain⟨eR,v0,hl⟩:=Gx hJ
  obtain rfl:sz=dq:=by rcases Bo with h|⟨_,h⟩<;>first|exact h|cases h
  have jD:v0=.list Gn sz xs:=by
   subst eR
   simp only[qi,hl]at e1
   exact I.inj e1
  subst jD
  obtain⟨cv,yT,Ma,Bn⟩:=e s _ hl
  have oV:cv=.slice (I ⟨r,q,Ey⟩) xs.length cap:=by
   have iP:qu x=I (.tmp s):=by rw[h1,eR]
   cases x with
   |tmp t'=>
    simp only[qu]at iP
    cases iP
    have:a.eval (.tmp s)=cv:=by simp[Act.eval,He,yT]
    rw[←this,hx]
   |const u=>simp only[qu]at iP;split at iP<;>cases iP
   |func f=>simp[qu]at iP
   |global g=>simp[qu]at iP
  subst oV
  obtain⟨hω,hB,hβ,_,EF,⟨cells,te,hg,cJ,_⟩,hK⟩:=Bn rfl
  simp only at hω hB hβ hg cJ hK
  obtain⟨eM,GF,ho2⟩:=cB.vals du.cells
  have oW:=du.sized
  by_cases eC:xs.length+ys.length≤cap
  ·-- there is room
   have gN:(xs.length+ys.length)*sz≤cap*sz:=Hh _ eC
   rw[J1]at gN
   have bE:=Va (P:=P) (w:=w) (ty:=o.type) ht hi r q xs.length cap (a.eval y) ys.length news (kQ▸hs) eC hg (by rw[kQ,nD];omega)
   rw[←hx]at bE
   obtain⟨m',e',cX⟩:=qx9 (d:=d) (tmps:=a.tmps) m e (r:=r) (q:=q+xs.length*sz) (news:=news) hω hB hβ hg (by rw[nD];omega) hK dh
   rw[kQ]at bE
   rw[hJ]
   refine⟨_,_,fh bE,_,_,cX,m',e',?_,?_⟩
   ·have qY:bu (C.put r (q+xs.length*sz) news) r sz (xs++ys) q:=bu.append (aC.mono cX du) (bu.fa (aH.fB hK df) fW)
    have:=aC.list sz (xs++ys) r q cap (by simpa using eC) qY
    simpa using this
   ·intro _
    have hall:∀x∈xs++ys,x.flat.length=sz:=fun x hx=>by
     rcases Ig.1 hx with hx|hx
     ·exact oW x hx
     ·exact fW x hx
    refine⟨by simp[cQ],hB,hβ,rfl,EF,⟨_,te,setRow_heap w r cells _ te (0,0) hg,?_,fb.sized hall⟩,?_⟩
    ·simp;omega
    ·intro p hp
     rw[J1]at hp
     simp only[aH.put]
     simp only at hp
     rw[if_neg (by rw[nD];omega)]
     exact hK p (by omega)
  ·-- there is none
   have gp:∀v∈eM,v.oneCell'=Gp:=fun v hv=>by
    obtain⟨j,hj⟩:=Mq hv
    exact m.dv _ _ _ (ho2 j v hj)
   have Vb:eM.length=xs.length*i.size:=by rw[GF.length,yn xs oW,kQ]
   have:=grow (I ⟨r,q,Ey⟩) cap eM hx (by omega) (fun w' U9=>run_firstCells_some w' _ _ _ _ _ eM Vb (fun j v hj=>by
    subst U9
    rw[add_lit]
    have:=m.know _ _ _ (ho2 j v hj)
    simpa using this)) GF gp oW
   simpa using this
end
structure nE (w w':World)(r:Nat):Prop where
 size:w'.heap.size=w.heap.size
 other:∀k,k≠r→w'.heap[k]?=w.heap[k]?
 fz:∀c t fr,w'.heap[r]?=I (.cells c t fr)→fr=(0,0)
 os:w'.os=w.os
 output:w'.output=w.output
theorem gM.iO {w w' r cs}(h:gM w w' r cs):nE w w' r:=
 ⟨h.size,h.other,fun c t fr hc=>by obtain⟨t',ht⟩:=h.at_;rw[ht]at hc;cases hc;rfl,h.os,h.output⟩
section
variable {P:Program}{C C0:aH}{ω:Nat→Option Loc}{w w' w0:World}{hp:qh}{env:Env}{a:Act}{o:Oper}{tmps:Array Value}{d:Loc}
theorem aI.dM {B b r ℓ x v}(hu:nE w w' r)(hb:C.β b=I r)(ho:aI C ω w B ℓ x v):aI C ω w' B ℓ x v:=by
 unfold aI at *
 split at ho
 ·obtain⟨h1,h2,h3,h4,h8,⟨cells,elem,h5,h6⟩,h7⟩:=ho
  refine⟨h1,h2,h3,h4,h8,⟨cells,elem,?_,h6⟩,h7⟩
  rw[hu.other _ (fun h=>h3 b (by rw[h];exact hb))]
  exact h5
 ·obtain⟨h1,h2,h3,h4,h8,⟨cells,elem,h5,h6⟩,h7⟩:=ho
  refine⟨h1,h2,h3,h4,h8,⟨cells,elem,?_,h6⟩,h7⟩
  rw[hu.other _ (fun h=>h3 b (by rw[h];exact hb))]
  exact h5
 ·trivial
theorem ak.dM {B b r}(hu:nE w w' r)(hb:C.β b=I r)(e:ak C ω w B env tmps):ak C ω w' B env tmps:=
 fun s x hx=>let ⟨v,h1,h2,h3⟩:=e s x hx; ⟨v,h1,h2,fun h=>(h3 h).dM hu hb⟩
theorem bD.dM {B b b' r r' x}(hu:nE w w' r)(hb:C.β b=I r)(bB:r'≠r)(h:bD P C ω w B b' r' x):bD P C ω w' B b' r' x:=by
 have hg:=hu.other r' bB
 cases x with
 |hole=>exact h
 |cells eK=>
  obtain⟨vs,elem,h1,h2,h3⟩:=h
  exact⟨vs,elem,by rw[hg];exact h1,h2,fun j c hc=>let ⟨v,a,q,b,d⟩:=h3 j c hc; ⟨v,a,q,b,fun e=>(d e).dM hu hb⟩⟩
 |map es=>obtain⟨cf,clock,h1,h2⟩:=h;exact⟨cf,clock,by rw[hg];exact h1,h2⟩
 |iter s pos=>show w'.heap[r']?=_;rw[hg];exact h
 |loop l=>obtain⟨lp,h1,h2⟩:=h;exact⟨lp,by rw[hg];exact h1,h2⟩
 |gi t e l=>obtain⟨p,v,h1,h2,h3,h4⟩:=h;exact⟨p,v,by rw[hg];exact h1,h2,h3,h4.dM hu hb⟩
 |dead=>obtain⟨cs,t,h1⟩:=h;exact⟨cs,t,by rw[hg];exact h1⟩
 |vec sz bG xs=>exact eo.imp (fun _ _ _ h=>h) (fun _ h=>h) (fun _ h _=>h) hg (fun q n cap k=>⟨hu.other q (fun hq=>k.2.2.1 b (by rw[hb];exact congrArg I hq.symm)),k.dM hu hb⟩) h
theorem ax.dX {ω'}(m:ax P C ω w0 C0 hp w){b r}(hu:nE w w' r)(hb:C.β b=I r)(x':bh)(hω:∀b' j y v,b'≠b→aI C ω w w0.heap.size (.cell b' j) y v→aI C ω' w w0.heap.size (.cell b' j) y v)
  (gO:bD P C ω' w' w0.heap.size b r x'):ax P C ω' w0 C0 (hp.set b x') w':=by
 have hfr:=m.fresh b r hb
 have qZ:w.heap[r]?≠I (.deferred (I [])):=by
  obtain⟨x,hx⟩:=Hc (m.lt b r hb).2▸(⟨_,rfl⟩:∃x,I (hp[b]'(m.lt b r hb).2)=I x)
  have h0:=m.box b x r hx hb
  intro h
  cases x with
  |hole=>exact h0
  |cells cs=>obtain⟨vs,elem,h1,_⟩:=h0;rw[h]at h1;cases h1
  |map es=>obtain⟨cf,clock,h1,_⟩:=h0;rw[h]at h1;cases h1
  |iter s pos=>have h1:w.heap[r]?=_:=h0;rw[h]at h1;cases h1
  |loop l=>obtain⟨lp,h1,_⟩:=h0;rw[h]at h1;cases h1
  |gi t e l=>obtain⟨p,v,h1,_⟩:=h0;rw[h]at h1;cases h1
  |dead=>obtain⟨cs,t,h1⟩:=h0;rw[h]at h1;cases h1
  |vec sz bG xs=>obtain⟨_,_,_,_,_,_,cs,t,h1⟩:=h0;rw[h]at h1;cases h1
 refine { base:=m.base,know:=?_,dv:=m.dv,apart:=m.apart,inj:=m.inj,lt:=?_,size:=?_,frame:=?_,fF:=?_,os:=hu.os.trans m.os,output:=hu.output.trans m.output,fresh:=m.fresh,grown:=m.grown,old:=m.old,box:=?_,iH:=fun q hq=>by rw[hu.size];exact m.iH q hq }
 ·intro k p v hk
  have bB:k≠r:=fun h=>by rw[h,m.apart b r p hb]at hk;cases hk
  have hc:=m.know _ _ _ hk
  simp only[World.cell?]at hc ⊢
  rw[hu.other k bB]
  exact hc
 ·intro k p hk
  rw[hu.size,J5];exact m.lt k p hk
 ·rw[hu.size];exact m.size
 ·intro k hk hn hw
  by_cases iA:k=r
  ·subst iA
   rcases hfr with h|h|h
   ·exact absurd h (hn b)
   ·omega
   ·exact absurd h hw
  ·rw[hu.other k iA];exact m.frame k hk hn hw
 ·intro k hk
  have iA:k≠r:=fun h=>qZ (h▸m.fF k hk)
  rw[hu.other k iA];exact m.fF k hk
 ·intro k x p hx hk
  by_cases kT:k=b
  ·subst kT
   rw[hb]at hk
   cases hk
   rw[Hq (m.lt k _ hb).2]at hx
   cases hx
   exact gO
  ·rw[Ib (N9 kT)]at hx
   have qU:p≠r:=fun h=>kT (m.inj k b p hk (h▸hb))
   have h0:=m.box k x p hx hk
   exact((h0.dM hu hb qU).mono (ω':=ω') (aH.le_refl C) (fun j y v ho=>by
    have:=hω k j y v kT
    -- the ownerships of other boxes,in the new world
    unfold aI at ho this ⊢
    split at ho
    ·obtain⟨h1,h2,h3,h4,h8,⟨cells,elem,h5,h6⟩,h7⟩:=ho
     rename_i ad len cap
     have lP:ad.block≠r:=fun h=>h3 b (h▸hb)
     rw[hu.other _ lP]at h5
     obtain⟨k1,_⟩:=this ⟨h1,h2,h3,h4,h8,⟨cells,elem,h5,h6⟩,h7⟩
     exact⟨k1,h2,h3,h4,h8,⟨cells,elem,by rw[hu.other _ lP];exact h5,h6⟩,h7⟩
    ·obtain⟨h1,h2,h3,h4,h8,⟨cells,elem,h5,h6⟩,h7⟩:=ho
     rename_i ad
     have lP:ad.block≠r:=fun h=>h3 b (h▸hb)
     rw[hu.other _ lP]at h5
     obtain⟨k1,_⟩:=this ⟨h1,h2,h3,h4,h8,⟨cells,elem,h5,h6⟩,h7⟩
     exact⟨k1,h2,h3,h4,h8,⟨cells,elem,by rw[hu.other _ lP];exact h5,h6⟩,h7⟩
    ·trivial))
theorem bD.read {B b r off n cs us}(h:bD P C ω w B b r (.cells cs))(hl:zn cs off n=I us):
  ∃vs,aV C us vs∧us.length=n∧vs.length=n∧(∀j v,vs[j]?=I v→w.cell? ⟨r,off+j,Ey⟩=I v)∧∀v∈vs,v.oneCell'=Gp:=by
 unfold zn at hl
 cases hb:Xo (off+n) cs.length with
 |false=>simp[hb]at hl
 |true=>
  simp only[hb,cond_true,I.injEq]at hl
  subst hl
  have hle:=J2 hb
  obtain⟨vs,elem,h1,h2,h3⟩:=h
  have key:∀(n off:Nat),off+n≤cs.length→∃ws:List Value,aV C (((cs.drop off).take n).map (·.1)) ws∧ws.length=n∧∀j v,ws[j]?=I v→vs[off+j]?=I v∧v.oneCell'=Gp:=by
   intro n
   induction n with
   |zero=>intro off _;exact⟨[],by simpa using aC.nil,rfl,by simp⟩
   |succ n ih=>
    intro off hle
    obtain⟨ws,i1,i2,i3⟩:=ih (off+1) (by omega)
    have br:off<cs.length:=by omega
    obtain⟨v,j1,j2,j3,_⟩:=h3 off cs[off] (Hc br)
    refine⟨v::ws,?_,by simp[i2],?_⟩
    ·rw[List.drop_eq_getElem_cons br]
     exact .cons _ _ _ _ j3 i1
    ·intro j u hj
     cases j with
     |zero=>simp at hj;subst hj;exact⟨j1,j2⟩
     |succ j=>simp at hj;rw[show off+(j+1)=off+1+j from by omega];exact i3 j u hj
  obtain⟨ws,k1,k2,k3⟩:=key n off hle
  refine⟨ws,k1,by simp;omega,k2,?_,?_⟩
  ·intro j v hj
   have:=(k3 j v hj).1
   simp[World.cell?,h1,this]
  ·intro v hv
   obtain⟨j,hj⟩:=Mq hv
   exact(k3 j v hj).2
theorem GG {t:TypeId}{n r off vs}(hg:yr P t=I Gp)(hn:js P t=I n)(hl:vs.length=n)(hc:∀j v,vs[j]?=I v→w.cell? ⟨r,off+j,Ey⟩=I v):
  (loadVar t ⟨r,off,Ey⟩).run P w=.ok (.agg ⟨vs⟩) w:=by
 have:=run_loadCells_list (P:=P) w ⟨r,off,Ey⟩ vs (fun j v hj=>by rw[add_lit];exact hc j v hj)
 rw[hl]at this
 simp[loadVar,ED hg,yo hn,this]
theorem GH {t:TypeId}{r off v}(hg:yr P t=I Gn)(hc:w.cell? ⟨r,off,Ey⟩=I v):(loadVar t ⟨r,off,Ey⟩).run P w=.ok v w:=by
 simp[loadVar,ED hg,hc]
theorem Vc (m:ax P C ω w0 C0 hp w)(he:bp C env a.tmps){t:TypeId}{x x' n ag p v}(ho:o.op=.load t x)(hg:yr P t=I ag)(hn:js P t=I n)(GI:ag=Gn→n=1)(h1:qu x=I x')(e1:qi env x'=I p)
  (hv:(∃b q cs us,p=.ptr b q∧jy hp b=I cs∧zn cs q n=I us∧((ag=Gp∧v=.agg us)∨(ag=Gn∧us=[v])))∨(p=.ah v∧Bool.xor ag v.isAgg=Gn∧v.flat.length=n)):Val P C a o w v:=by
 rcases hv with⟨b,q,cs,us,rfl,lA,hl,hv⟩|⟨rfl,hx,wJ⟩
 ·obtain⟨r,hr,hq⟩:=(qw he h1 e1).dy
  have gP:hp[b]?=I (.cells cs):=by
   unfold jy at lA
   split at lA
   ·rename_i eK h;cases lA;exact h
   ·cases lA
  obtain⟨vs,k1,_,k2,k3,_⟩:=(m.box b _ r gP hr).read hl
  rcases hv with⟨rfl,rfl⟩|⟨rfl,rfl⟩
  ·exact⟨.agg ⟨vs⟩,by simp[execOp,ho,Instr.loadAt,hq,Instr.sureAddr,GG hg hn k2 k3],.agg _ _ k1⟩
  ·cases k1 with
   |cons _ _ u us hu kP=>
    cases kP
    refine⟨u,?_,hu⟩
    have:=GH (P:=P) hg (by simpa using k3 0 u rfl)
    simp[execOp,ho,Instr.loadAt,hq,Instr.sureAddr,this]
 ·obtain⟨r,q,hq,hc⟩:=(qw he h1 e1).fc
  obtain⟨vs,k1,k2⟩:=cB.vals hc
  have hl:vs.length=n:=by rw[k1.length,wJ]
  have k3:∀j u,vs[j]?=I u→w.cell? ⟨r,q+j,Ey⟩=I u:=fun j u hj=>m.know _ _ _ (k2 j u hj)
  cases ag with
  |true=>
   cases v<;>simp[AVal.isAgg]at hx
   exact⟨.agg ⟨vs⟩,by simp[execOp,ho,Instr.loadAt,hq,Instr.sureAddr,GG hg hn hl k3],.agg _ _ k1⟩
  |false=>
   rw[qa4 (by simpa using hx)]at k1
   cases k1 with
   |cons _ _ u us hu kP=>
    cases kP
    refine⟨u,?_,hu⟩
    have:=GH (P:=P) hg (by simpa using k3 0 u rfl)
    simp[execOp,ho,Instr.loadAt,hq,Instr.sureAddr,this]
def aH.box (C:aH)(b r:Nat):aH:={ C with β:=fun k=>if k=b then I r else C.β k }
theorem aH.kU {b r}(h:C.β b=Ey):C.le (C.box b r):=
 ⟨fun _ _ _ h=>h,fun k p hk=>by
  simp only[aH.box]
  rw[if_neg (fun hb=>by rw[hb,h]at hk;cases hk)]
  exact hk,rfl,fun _ h=>h,fun _ h=>h⟩
theorem aI.box {B b r ℓ x v}(hr:w.heap.size≤r∨ω r≠I ℓ)(ho:aI C ω w B ℓ x v):aI (C.box b r) ω w B ℓ x v:=by
 unfold aI at *
 split at ho
 ·rename_i ad len cap
  obtain⟨h1,h2,h3,h4,h8,⟨cells,elem,h5,h6⟩,h7⟩:=ho
  have br:ad.block<w.heap.size:=(Hl.1 h5).1
  refine⟨h1,h2,fun k hk=>?_,h4,h8,⟨cells,elem,h5,h6⟩,h7⟩
  simp only[aH.box]at hk
  split at hk
  ·have iJ:r=ad.block:=I.inj hk
   rcases hr with hr|hr
   ·omega
   ·exact hr (iJ▸h1)
  ·exact h3 k hk
 ·rename_i ad
  obtain⟨h1,h2,h3,h4,h8,⟨cells,elem,h5,h6⟩,h7⟩:=ho
  have br:ad.block<w.heap.size:=(Hl.1 h5).1
  refine⟨h1,h2,fun k hk=>?_,h4,h8,⟨cells,elem,h5,h6⟩,h7⟩
  simp only[aH.box]at hk
  split at hk
  ·have iJ:r=ad.block:=I.inj hk
   rcases hr with hr|hr
   ·omega
   ·exact hr (iJ▸h1)
  ·exact h3 k hk
 ·trivial
theorem y8 {h0 rk x h'}(h:aJ h0 hp rk x=I h'):hp[h0+rk]?=I .hole∧h'=hp.set (h0+rk) x:=by
 unfold aJ at h
 split at h
 ·rename_i hh;cases h;exact⟨hh,rfl⟩
 ·cases h
theorem GJ (m:ax P C ω w0 C0 hp w){b}(h:hp[b]?=I .hole):C.β b=Ey:=by
 cases hb:C.β b with
 |none=>rfl
 |some r=>exact(m.box b .hole r h hb).elim
theorem ax.aJ (m:ax P C ω w0 C0 hp w)(e:ak C ω w w0.heap.size env tmps){b}(hh:hp[b]?=I .hole)(obj:Obj)(Vd:∀c t fr,obj=.cells c t fr→fr=(0,0))(x:bh)
  (gO:∀C' ω' w',C.le C'→w'.heap[w.heap.size]?=I obj→bD P C' ω' w' w0.heap.size b w.heap.size x):
  ax P (C.box b w.heap.size) ω w0 C0 (hp.set b x) (w.alloc obj)∧ak (C.box b w.heap.size) ω (w.alloc obj) w0.heap.size env tmps∧C.le (C.box b w.heap.size):=by
 have hx:Ext w (w.alloc obj):=Ext.alloc w obj Vd
 have hβ:=GJ m hh
 have hle:=aH.kU (C:=C) (r:=w.heap.size) hβ
 have m':=m.ext hx
 have br:b<hp.length:=(G7.1 hh).1
 refine⟨{ m' with apart:=?_,inj:=?_,lt:=?_,fresh:=?_,grown:=aH.le_trans m.grown hle,box:=?_ },?_,hle⟩
 ·intro k r q hk
  simp only[aH.box]at hk
  split at hk
  ·cases hk;exact m.jX _ (Ha _) q
  ·exact m.apart k r q hk
 ·intro k k' r hk eV
  simp only[aH.box]at hk eV
  split at hk<;>split at eV
  ·rename_i h1 h2;rw[h1,h2]
  ·cases hk;have:=(m.lt k' _ eV).1;omega
  ·cases eV;have:=(m.lt k _ hk).1;omega
  ·exact m.inj k k' r hk eV
 ·intro k r hk
  rw[J5]
  simp only[aH.box]at hk
  split at hk
  ·rename_i h1;cases hk;subst h1;exact⟨by rw[World.size_alloc];omega,br⟩
  ·have:=m.lt k r hk;exact⟨by rw[World.size_alloc];omega,this.2⟩
 ·intro k r hk
  simp only[aH.box]at hk
  split at hk
  ·cases hk;exact .inr (.inl m.size)
  ·exact m.fresh k r hk
 ·intro k y r hy hk
  simp only[aH.box]at hk
  split at hk
  ·rename_i h1
   subst h1
   cases hk
   rw[Hq br]at hy
   cases hy
   exact gO _ _ _ hle (by rw[wH,if_pos rfl])
  ·rename_i h1
   rw[Ib (N9 h1)]at hy
   exact((m.box k y r hy hk).mono (ω':=ω) hle fun j z v ho=>ho.box (.inl (Ha _))).ext hx
 ·exact fun s y hy=>let ⟨v,h1,h2,h3⟩:=e s y hy; ⟨v,h1,aC.mono hle h2,fun h=>((h3 h).box (.inl (Ha _))).ext hx⟩
theorem aI.GK {B b r ℓ x v}(hr:∀cs t fr,w.heap[r]?≠I (.cells cs t fr))(ho:aI C ω w B ℓ x v):aI (C.box b r) ω w B ℓ x v:=by
 unfold aI at *
 split at ho
 ·rename_i ad len cap
  obtain⟨h1,h2,h3,h4,h8,⟨cells,elem,h5,h6⟩,h7⟩:=ho
  refine⟨h1,h2,fun k hk=>?_,h4,h8,⟨cells,elem,h5,h6⟩,h7⟩
  simp only[aH.box]at hk
  split at hk
  ·have iJ:r=ad.block:=I.inj hk
   exact absurd (iJ▸h5) (hr _ _ _)
  ·exact h3 k hk
 ·rename_i ad
  obtain⟨h1,h2,h3,h4,h8,⟨cells,elem,h5,h6⟩,h7⟩:=ho
  refine⟨h1,h2,fun k hk=>?_,h4,h8,⟨cells,elem,h5,h6⟩,h7⟩
  simp only[aH.box]at hk
  split at hk
  ·have iJ:r=ad.block:=I.inj hk
   exact absurd (iJ▸h5) (hr _ _ _)
  ·exact h3 k hk
 ·trivial
theorem ax.GL (m:ax P C ω w0 C0 hp w)(e:ak C ω w w0.heap.size env tmps){b q es cf clock}(hh:hp[b]?=I .hole)(hg:w.heap[q]?=I (.map cf clock))(hq:∀k,C.β k≠I q)(hb:w0.heap.size≤q)(hr:cL C es cf.toList):
  ax P (C.box b q) ω w0 C0 (hp.set b (.map es)) w∧ak (C.box b q) ω w w0.heap.size env tmps∧C.le (C.box b q):=by
 have hβ:=GJ m hh
 have hle:=aH.kU (C:=C) (r:=q) hβ
 have br:b<hp.length:=(G7.1 hh).1
 have lB:∀cs t fr,w.heap[q]?≠I (.cells cs t fr):=fun cs t fr h=>by rw[hg]at h;cases h
 refine⟨{ m with apart:=?_,inj:=?_,lt:=?_,fresh:=?_,grown:=aH.le_trans m.grown hle,box:=?_ },?_,hle⟩
 ·intro k r o hk
  simp only[aH.box]at hk
  split at hk
  ·cases hk
   show C.K q o=Ey
   cases hK:C.K q o with
   |none=>rfl
   |some v=>
    have:=m.know q o v hK
    simp[World.cell?,hg]at this
  ·exact m.apart k r o hk
 ·intro k k' r hk eV
  simp only[aH.box]at hk eV
  split at hk<;>split at eV
  ·rename_i h1 h2;rw[h1,h2]
  ·cases hk;exact absurd eV (hq k')
  ·cases eV;exact absurd hk (hq k)
  ·exact m.inj k k' r hk eV
 ·intro k r hk
  rw[J5]
  simp only[aH.box]at hk
  split at hk
  ·rename_i h1;cases hk;subst h1;exact⟨(Hl.1 hg).1,br⟩
  ·exact m.lt k r hk
 ·intro k r hk
  simp only[aH.box]at hk
  split at hk
  ·cases hk;exact .inr (.inl hb)
  ·exact m.fresh k r hk
 ·intro k y r hy hk
  simp only[aH.box]at hk
  split at hk
  ·rename_i h1
   subst h1
   cases hk
   rw[Hq br]at hy
   cases hy
   exact⟨cf,clock,hg,hr.mono hle⟩
  ·rename_i h1
   rw[Ib (N9 h1)]at hy
   exact(m.box k y r hy hk).mono (ω':=ω) hle fun j z v ho=>ho.GK lB
 ·exact fun s y hy=>let ⟨v,h1,h2,h3⟩:=e s y hy; ⟨v,h1,aC.mono hle h2,fun h=>(h3 h).GK lB⟩
theorem Ve {xs vs}{t:TypeId}{B b r cells}(hr:aV C xs vs)(hs:∀x∈xs,qk x=Gp)(hv:∀(j:Nat) v,vs[j]?=I v→cells[j]?=I v)(hl:xs.length≤cells.size):
  ∀C' ω' w',C.le C'→w'.heap[r]?=I (.cells cells t (0,0))→bD P C' ω' w' B b r (.cells (cellsOf xs)):=by
 intro C' ω' w' hle hg
 refine⟨cells,t,hg,by simpa[cellsOf]using hl,?_⟩
 intro j c hc
 simp only[cellsOf,Ih,En]at hc
 obtain⟨x,hx,rfl⟩:=hc
 obtain⟨v,h1,h2⟩:=hr.get hx
 exact⟨v,hv j v h1,U8 h2 (hs x (Hx hx)),aC.mono hle h2,by simp⟩
theorem jey (m:ax P C ω w0 C0 hp w)(e:ak C ω w w0.heap.size env a.tmps){t:TypeId}{z h0 rk h'}(ho:o.op=.alloc t)(hz:yw P t=I z)(hs:∀x∈z,qk x=Gp)(hn:aJ h0 hp rk (.cells (cellsOf z))=I h'):
  ∃v w',(execOp a.eval o).run P w=.ok (.value v) w'∧zq P C0 w0 C a.tmps d env ⟨.ptr (h0+rk) 0,Gn,Ey,h'⟩ v w':=by
 obtain⟨hh,rfl⟩:=y8 hn
 obtain⟨_,zv,lz,cT,lN⟩:=vp (C:=C) hz
 obtain⟨m',e',hle⟩:=m.aJ e hh (.cells zv.cells t) (fun c t fr h=>by cases h;rfl) (.cells (cellsOf z)) (Ve cT hs (fun j v h=>by simpa using h) (by have:=cT.length;simp at this;omega))
 refine⟨.pointer (I ⟨w.heap.size,0,Ey⟩),_,?_,_,_,hle,m',e',.ptr _ _ _ (by simp[aH.box]),by simp⟩
 simp[execOp,ho,Instr.alloc,lz,newVar,newRow]
theorem jqe (m:ax P C ω w0 C0 hp w)(e:ak C ω w w0.heap.size env a.tmps){t:TypeId}{x x' v h0 rk h'}(ho:o.op=.box t x)(h1:qu x=I x')(e1:qi env x'=I v)(hs:v.flat.all qk=Gp)
  (hn:aJ h0 hp rk (.cells (cellsOf v.flat))=I h'):
  ∃v w',(execOp a.eval o).run P w=.ok (.value v) w'∧zq P C0 w0 C a.tmps d env ⟨.ptr (h0+rk) 0,Gn,Ey,h'⟩ v w':=by
 obtain⟨hh,rfl⟩:=y8 hn
 have hr:=Bi (qw e.cq h1 e1) hs
 obtain⟨m',e',hle⟩:=m.aJ e hh (.cells (a.eval x).cells t) (fun c t fr h=>by cases h;rfl) (.cells (cellsOf v.flat)) (Ve hr (by simpa using hs) (fun j v h=>by simpa using h) (by have:=hr.length;simp at this;omega))
 refine⟨.pointer (I ⟨w.heap.size,0,Ey⟩),_,?_,_,_,hle,m',e',.ptr _ _ _ (by simp[aH.box]),by simp⟩
 simp[execOp,ho,Instr.box,newVar,newRow]
theorem jir (m:ax P C ω w0 C0 hp w)(e:ak C ω w w0.heap.size env a.tmps){t:TypeId}{x x' v}(ho:o.op=.box t x)(h1:qu x=I x')(e1:qi env x'=I v)(hs:v.flat.all qk=Gp):
  ∃u w',(execOp a.eval o).run P w=.ok (.value u) w'∧zq P C0 w0 C a.tmps d env ⟨.ah v,Gn,Ey,hp⟩ u w':=by
 have hr:=Bi (qw e.cq h1 e1) hs
 have hx:Ext w (w.alloc (.cells (a.eval x).cells t)):=Ext.alloc w _ (fun c t fr h=>by cases h;rfl)
 have hn:∀o,0≤o→C.K w.heap.size o=Ey:=fun o _=>m.jX _ (Ha _) o
 have m':=m.newRow (a.eval x).cells t (a.eval x).cells.toList (fun j v h=>by simpa using h) (Bk hr (fun y hy=>St.1 hs y hy))
 refine⟨.pointer (I ⟨w.heap.size,0,Ey⟩),_,?_,_,ω,aH.gL _ hn,m',(e.put _ (.inl (Ha _)) hn).ext hx,.ah _ _ _ (aH.fB hn hr),by simp⟩
 simp[execOp,ho,Instr.box,newVar,newRow]
theorem jpu (m:ax P C ω w0 C0 hp w)(e:ak C ω w w0.heap.size env a.tmps){t:TypeId}{e' sz h0 rk h'}(ho:o.op=.alloc t)(hz:yw P t=I [.b4,.list Gp sz []])(hn:aJ h0 hp rk (.gi t e' [])=I h'):
  ∃v w',(execOp a.eval o).run P w=.ok (.value v) w'∧zq P C0 w0 C a.tmps d env ⟨.ptr (h0+rk) 0,Gn,Ey,h'⟩ v w':=by
 obtain⟨hh,rfl⟩:=y8 hn
 obtain⟨_,zv,lz,cT,lN⟩:=vp (C:=C) hz
 have hzc:zv.cells=#[.pointer Ey,.slice Ey 0 0]:=by
  apply Hp
  generalize zv.cells.toList=vs at cT
  cases cT with
  |cons _ _ v vs h1 h2=>
   cases h2 with
   |cons _ _ u us h3 h4=>
    cases h4
    cases h1
    cases h3
    rfl
 obtain⟨m',e',hle⟩:=m.aJ e hh (.cells zv.cells t) (fun c t fr h=>by cases h;rfl) (.gi t e' []) (fun C' ω' w' _ hg=>⟨.pointer Ey,.slice Ey 0 0,by rw[hzc]at hg;exact hg,.inl rfl,.inl ⟨rfl,rfl⟩,trivial⟩)
 refine⟨.pointer (I ⟨w.heap.size,0,Ey⟩),_,?_,_,_,hle,m',e',.ptr _ _ _ (by simp[aH.box]),by simp⟩
 simp[execOp,ho,Instr.alloc,lz,newVar,newRow]
theorem jfs (m:ax P C ω w0 C0 hp w)(e:ak C ω w w0.heap.size env a.tmps){t:TypeId}{h0 rk h'}(ho:o.op=.makeMap t Ey)(hn:aJ h0 hp rk (.map [])=I h'):
  ∃v w',(execOp a.eval o).run P w=.ok (.value v) w'∧zq P C0 w0 C a.tmps d env ⟨.map (h0+rk),Gn,Ey,h'⟩ v w':=by
 obtain⟨hh,rfl⟩:=y8 hn
 obtain⟨m',e',hle⟩:=m.aJ e hh (.map #[] 0) (fun c t fr h=>by cases h) (.map []) (fun C' ω' w' _ hg=>⟨#[],0,hg,.nil⟩)
 refine⟨.map (I w.heap.size),_,?_,_,_,hle,m',e',.map _ _ (by simp[aH.box]),by simp⟩
 simp[execOp,ho,Instr.makeMap]
theorem jbk (m:ax P C ω w0 C0 hp w)(e:ak C ω w w0.heap.size env a.tmps){t:TypeId}{x x' s h0 rk h'}(ho:o.op=.range t x)(ht:P.underlying t=I .string)(h1:qu x=I x')(e1:qi env x'=I (.str s))(hn:aJ h0 hp rk (.iter s 0)=I h'):
  ∃v w',(execOp a.eval o).run P w=.ok (.value v) w'∧zq P C0 w0 C a.tmps d env ⟨.ptr (h0+rk) 0,Gn,Ey,h'⟩ v w':=by
 obtain⟨hh,rfl⟩:=y8 hn
 have hs:=(qw e.cq h1 e1).cy
 obtain⟨m',e',hle⟩:=m.aJ e hh (.stringIter ⟨⟨s⟩⟩ 0) (fun c t fr h=>by cases h) (.iter s 0) (fun C' ω' w' _ hg=>hg)
 refine⟨.pointer (I ⟨w.heap.size,0,Ey⟩),_,?_,_,_,hle,m',e',.ptr _ _ _ (by simp[aH.box]),by simp⟩
 simp[execOp,ho,Instr.range,run_underlying ht,hs]
end
section
variable {P:Program}{C C0:aH}{ω:Nat→Option Loc}{w w' w0:World}{hp:qh}{env:Env}{a:Act}{o:Oper}{tmps:Array Value}{d:Loc}
def vt (ω:Nat→Option Loc)(x:AVal)(v:Value)(ℓ:Loc):Nat→Option Loc:=
 match x,v with
 | .list ..,.slice (I ad) _ _=>cQ ω ad.block ℓ
 | .dc _,.pointer (I ad)=>cQ ω ad.block ℓ
 |_,_=>ω
theorem yV {B ℓ0 ℓ ℓ' x z cv u}(h0:aI C ω w B ℓ0 x cv)(bB:ℓ≠ℓ0)(hz:aI C ω w B ℓ z u):aI C (vt ω x cv ℓ') w B ℓ z u:=by
 unfold vt
 split
 ·rename_i ad l c
  have hω:ω ad.block=I ℓ0:=h0.1
  exact hz.other (.inl (by rw[hω];intro h;exact bB (I.inj h).symm))
 ·rename_i n ad
  have hω:ω ad.block=I ℓ0:=h0.1
  exact hz.other (.inl (by rw[hω];intro h;exact bB (I.inj h).symm))
 ·exact hz
theorem Mb {B ℓ0 ℓ' x cv}(h0:aI C ω w B ℓ0 x cv):aI C (vt ω x cv ℓ') w B ℓ' x cv:=by
 unfold vt
 split
 ·exact⟨by simp[cQ],h0.2⟩
 ·exact⟨by simp[cQ],h0.2⟩
 ·rename_i h1 h2
  unfold aI
  split
  ·exact absurd rfl (h1 _ _ _ _ _ _ rfl)
  ·exact absurd rfl (h2 _ _ rfl)
  ·trivial
theorem wK {b cs}(h:jy hp b=I cs):hp[b]?=I (.cells cs):=by
 unfold jy at h
 split at h
 ·rename_i eK h';cases h;exact h'
 ·cases h
theorem Bq {b x h'}(h:jt hp b x=I h'):h'=hp.set b x:=by
 unfold jt at h
 cases hb:Zk b hp.length with
 |false=>simp[hb]at h
 |true=>simpa[hb]using h.symm
theorem bD.store {ω':Nat→Option Loc}{B b r off:Nat}{cs:List (AVal×Bool)}{us:List AVal}{news:List Value}{fl:List Bool}{vs:Array Value}{t:TypeId}(Mc:fl.length=us.length)(hr:aV C us news)(h1:∀v∈news,v.oneCell'=Gp)
  (hl:off+us.length≤cs.length) (db:cs.length≤vs.size) (hold:∀j c,cs[j]?=I c→∃v,vs[j]?=I v∧v.oneCell'=Gp∧bN C c.1 v∧(c.2=Gp→aI C ω' w' B (.cell b j) c.1 v))
  (dw:∀j u v,us[j]?=I u→news[j]?=I v→fl[j]?=I Gp→aI C ω' w' B (.cell b (off+j)) u v)
  (hg:w'.heap[r]?=I (.cells (vs.toList.take off++news++vs.toList.drop (off+news.length)).toArray t (0,0))):
  bD P C ω' w' B b r (.cells (cs.take off++us.zip fl++cs.drop (off+us.length))):=by
 have nD:=hr.length
 refine⟨_,t,hg,?_,?_⟩
 ·simp;omega
 ·intro j c hc
  rw[Ia]at hc
  have e1:(Zi off cs).length=off:=by simp;omega
  have e2:(us.zip fl).length=us.length:=by simp[Mc]
  have f1:(Zi off vs.toList).length=off:=by simp;omega
  simp only[Hd,Ia]
  by_cases hj:j<off
  ·rw[G6 (by omega),Hv hj]at hc
   obtain⟨v,a1,a2,a3,a4⟩:=hold j c hc
   exact⟨v,by rw[G6 (by omega),Hv hj,Hb];exact a1,a2,a3,a4⟩
  ·rw[G9 (by omega),e1]at hc
   by_cases hj2:j<off+us.length
   ·rw[G6 (by omega)]at hc
    have dT:=List.getElem?_zip_eq_some.1 hc
    obtain⟨v,a1,a2⟩:=hr.get dT.1
    refine⟨v,by rw[G9 (by omega),f1,G6 (by omega)];exact a1,h1 v (Hx a1),a2,fun hf=>?_⟩
    have:=dw (j-off) c.1 v dT.1 a1 (by rw[dT.2,hf])
    rw[show off+(j-off)=j from by omega]at this
    exact this
   ·rw[G9 (by omega),e2,Mv]at hc
    rw[show off+us.length+(j-off-us.length)=j from by omega]at hc
    obtain⟨v,a1,a2,a3,a4⟩:=hold j c hc
    exact⟨v,by rw[G9 (by omega),f1,G9 (by omega),Mv,show off+news.length+(j-off-news.length)=j from by omega,Hb];exact a1,a2,a3,a4⟩
theorem jeu (us:List AVal):us.zip (G5 us.length Gn)=us.map (·,Gn):=by
 induction us with
 |nil=>rfl
 |cons x us ih=>simp only[List.length_cons,Ic,List.zip_cons_cons,ih,Zj]
theorem q45 (m:ax P C ω w0 C0 hp w)(e:ak C ω w w0.heap.size env tmps){b r off:Nat}{cs:List (AVal×Bool)}{us:List AVal}{news:List Value}(hb:hp[b]?=I (.cells cs))(hr:C.β b=I r)(hH:aV C us news)(h1:∀v∈news,v.oneCell'=Gp)(hl:off+us.length≤cs.length):
  ∃vs t,w.heap[r]?=I (.cells vs t (0,0))∧off+news.length≤vs.size ∧
   ax P C ω w0 C0 (hp.set b (.cells (cs.take off++us.map (·,Gn)++cs.drop (off+us.length)))) (w.setRow r (vs.toList.take off++news++vs.toList.drop (off+news.length)).toArray) ∧
   ak C ω (w.setRow r (vs.toList.take off++news++vs.toList.drop (off+news.length)).toArray) w0.heap.size env tmps:=by
 obtain⟨vs,t,hg,db,hold⟩:=m.box b _ r hb hr
 have hu:=Gu hg (vs.toList.take off++news++vs.toList.drop (off+news.length)).toArray
 have nD:=hH.length
 refine⟨vs,t,hg,by omega,m.dX hu.iO hr _ (fun b' j y v _ h=>h) ?_,e.dM hu.iO hr⟩
 rw[←jeu]
 refine bD.store (by simp) hH h1 hl db (fun j c hc=>?_) (fun j u v _ _ hf=>?_) (setRow_heap w r vs _ t (0,0) hg)
 ·obtain⟨v,a1,a2,a3,a4⟩:=hold j c hc
  exact⟨v,a1,a2,a3,fun h=>(a4 h).dM hu.iO hr⟩
 ·rw[List.getElem?_replicate]at hf;split at hf<;>cases hf
theorem Vf {t te:TypeId}{n r off v vs}(hn:js P t=I n)(hl:v.cells.toList.length=n)(hg:w.heap[r]?=I (.cells vs te (0,0)))(cJ:off+v.cells.toList.length≤vs.size)(h1:∀u∈v.cells.toList,u.oneCell'=Gp):
  (storeVar t ⟨r,off,Ey⟩ v).run P w=.ok () (w.setRow r (vs.toList.take off++v.cells.toList++vs.toList.drop (off+v.cells.toList.length)).toArray):=by
 have ct:=run_storeCells_at (P:=P) r off te v.cells.toList 0 vs w hg (by simpa using cJ) h1
 simp only[X6]at ct
 have:¬(v.cells.size≠n):=by simp at hl;simpa using hl
 simp only[storeVar,Sem.run_bind,yo hn,Result.andThen_ok,this,if_false,Sem.run_ite,ct]
theorem jfv (m:ax P C ω w0 C0 hp w)(e:ak C ω w w0.heap.size env a.tmps){t:TypeId}{x y x' y' n b q v cs eK h'}(ho:o.op=.store t x y)(hn:js P t=I n)
  (h1:qu x=I x') (h2:qu y=I y') (e1:qi env x'=I (.ptr b q)) (e2:qi env y'=I v) (lA:jy hp b=I cs) (wJ:v.flat.length=n) (ct:jw cs q v.flat=I eK) (bw:jt hp b (.cells eK)=I h'):
  ∃w',(execOp a.eval o).run P w=.ok .skip w'∧zq P C0 w0 C a.tmps d env ⟨.undef,Gn,Ey,h'⟩ undef w':=by
 obtain⟨r,hr,hq⟩:=(qw e.cq h1 e1).dy
 unfold jw at ct
 cases hb:(Xo (q+v.flat.length) cs.length&&v.flat.all qk)with
 |false=>simp[hb]at ct
 |true=>
  simp only[hb,cond_true,I.injEq]at ct
  simp only[Hj]at hb
  subst ct
  have ry:=Bi (qw e.cq h2 e2) hb.2
  have dh:=Bk ry (by simpa using hb.2)
  obtain⟨vs,te,hg,cJ,m',e'⟩:=q45 m e (wK lA) hr ry dh (J2 hb.1)
  obtain rfl:=Bq bw
  have bE:=Vf (P:=P) hn (by rw[ry.length,wJ]) hg cJ dh
  exact⟨_,by simp[execOp,ho,Instr.storeAt,hq,Instr.sureAddr,bE],C,ω,aH.le_refl C,m',e',.undef,by simp⟩
theorem q60 (m:ax P C ω w0 C0 hp w)(e:ak C ω w w0.heap.size env a.tmps){t:TypeId}{x y:Operand}{x' y':jx}{b q s:Nat}{v:AVal}{cs:List (AVal×Bool)}{h':qh}(ho:o.op=.store t x y)(hn:js P t=I 1)
  (h1:qu x=I x') (h2:qu y=I y') (e1:qi env x'=I (.ptr b q)) (e2:qi env y'=I v) (lA:jy hp b=I cs) (hv:v.cS=Gp) (br:q<cs.length) (c5:zu env y'=I s) (bw:jt hp b (.cells (cs.set q (v,Gp)))=I h'):
  ∃w',(execOp a.eval o).run P w=.ok .skip w'∧zq P C0 w0 C a.tmps d env ⟨.undef,Gn,I s,h'⟩ undef w':=by
 obtain⟨r,hr,hq⟩:=(qw e.cq h1 e1).dy
 have ry:=qw e.cq h2 e2
 obtain⟨rh,v0,hl⟩:=Gx c5
 have jD:v0=v:=by subst rh;simp only[qi,hl]at e2;exact I.inj e2
 subst jD
 have kD:v0.flat=[v0]:=by cases v0<;>simp[AVal.cS]at hv<;>rfl
 have hsc:qk v0=Gp:=by cases v0<;>simp[AVal.cS]at hv<;>rfl
 have rf:=Bi ry (by rw[kD];simpa using hsc)
 rw[kD]at rf
 have dh:=Bk rf (by simpa using hsc)
 have ej:(a.eval y).cells.toList=[a.eval y]:=by
  have:=U8 ry hsc
  cases hh:a.eval y<;>simp[hh,Value.oneCell']at this<;>rfl
 obtain⟨cv,yT,Ma,Bn⟩:=e s _ hl
 have oV:a.eval y=cv:=by
  have Br:qu y=I (.tmp s):=by rw[h2,rh]
  cases y with
  |tmp t'=>simp only[qu]at Br;cases Br;simp[Act.eval,He,yT]
  |const u=>simp only[qu]at Br;split at Br<;>cases Br
  |func f=>simp[qu]at Br
  |global g=>simp[qu]at Br
 obtain⟨vs,te,hg,db,hold⟩:=m.box b _ r (wK lA) hr
 have hu:=Gu hg (vs.toList.take q++[a.eval y]++vs.toList.drop (q+1)).toArray
 have iy:(a.eval y).cells.toList.length=1:=by rw[ej];rfl
 have bE:=Vf (P:=P) (t:=t) (off:=q) hn iy hg (by omega) dh
 rw[iy,ej]at bE
 obtain rfl:=Bq bw
 have yW:=Bn rfl
 have ot:∀ℓ z u,ℓ≠.slot s→aI C ω w w0.heap.size ℓ z u→aI C (vt ω v0 cv (.cell b q)) w w0.heap.size ℓ z u:=fun ℓ z u hℓ hz=>yV yW hℓ hz
 have dw:aI C (vt ω v0 cv (.cell b q)) w w0.heap.size (.cell b q) v0 cv:=Mb yW
 have hcs:cs.take q++[(v0,Gp)]++cs.drop (q+1)=cs.set q (v0,Gp):=by
  rw[List.set_eq_take_append_cons_drop,if_pos br];simp
 refine⟨w.setRow r (vs.toList.take q++[a.eval y]++vs.toList.drop (q+1)).toArray,by simp only[execOp,ho,Instr.storeAt,Sem.run_bind,hq,Instr.sureAddr,Sem.run_pure,Result.andThen_ok,bE],C,vt ω v0 cv (.cell b q),aH.le_refl C,?_,?_,.undef,by simp⟩
 ·refine m.dX hu.iO hr _ (fun b' j z u fN hz=>ot _ z u (by simp) hz) ?_
  rw[←hcs]
  have hz:[(v0,Gp)]=[v0].zip [Gp]:=rfl
  rw[hz]
  refine bD.store (us:=[v0]) (fl:=[Gp]) (news:=[a.eval y]) rfl (by rw[←ej];exact rf) (by rw[←ej];exact dh) (by simp;omega) db (fun j c hc=>?_) (fun j u v GM mI _=>?_) (setRow_heap w r vs _ te (0,0) hg)
  ·obtain⟨v,a1,a2,a3,a4⟩:=hold j c hc
   exact⟨v,a1,a2,a3,fun h=>(ot _ _ _ (by simp) (a4 h)).dM hu.iO hr⟩
  ·cases j with
   |zero=>
    simp at GM mI
    subst GM;subst mI
    have h3:=dw.dM hu.iO hr
    exact oV▸h3
   |succ j=>simp at GM
 ·intro t' x' eR
  by_cases lQ:t'=s
  ·subst lQ
   simp only[yf,hl,jj,V3,cond_true]at eR
   cases eR
   exact⟨cv,yT,Ma,by simp⟩
  ·have iQ:jj t' env=I x':=by
    simp only[yf,hl,jj]at eR
    have:Hm s t'=Gn:=by
     cases hb:Hm s t' with
     |false=>rfl
     |true=>exact absurd (Gs hb).symm lQ
    rw[this]at eR
    exact eR
   obtain⟨u,k1,k2,k3⟩:=e t' x' iQ
   exact⟨u,k1,k2,fun h=>(ot _ _ _ (by simp[lQ]) (k3 h)).dM hu.iO hr⟩
end
section
variable {P:Program}{C C0:aH}{ω:Nat→Option Loc}{w w' w0:World}{hp:qh}{env:Env}{a:Act}{o:Oper}{tmps:Array Value}{d:Loc}
theorem q1h {s v ow}(hl:jj s env=I (v,ow)){t x}(hx:jj t (yf env (I s))=I x):(t=s∧x=(v,Gn))∨(t≠s∧jj t env=I x):=by
 simp only[yf,hl,jj]at hx
 cases hb:Hm s t with
 |true=>
  simp only[hb,cond_true,I.injEq]at hx
  exact .inl ⟨(Gs hb).symm,hx.symm⟩
 |false=>
  simp only[hb,cond_false]at hx
  refine .inr ⟨fun h=>?_,hx⟩
  subst h
  simp at hb
theorem jll (m:ax P C ω w0 C0 hp w)(e:ak C ω w w0.heap.size env a.tmps){s v ow}(ho:o.op=.move (.tmp s)∨o.op=.assign (.tmp s))(hl:jj s env=I (v,ow)):
  ∃u w',(execOp a.eval o).run P w=.ok (.value u) w'∧zq P C0 w0 C a.tmps d env ⟨v,ow,I s,hp⟩ u w':=by
 obtain⟨cv,h1,h2,h3⟩:=e s _ hl
 have hO:a.eval (.tmp s)=cv:=by simp[Act.eval,He,h1]
 have bE:(execOp a.eval o).run P w=.ok (.value cv) w:=by rcases ho with ho|ho<;>simp[execOp,ho,hO]
 refine⟨cv,w,bE,?_⟩
 by_cases hk:ow=Gp
 ·subst hk
  have c5:=h3 rfl
  refine⟨C,vt ω v cv d,aH.le_refl C,?_,?_,h2,fun _=>Mb c5⟩
  ·exact { m with box:=fun b x r hx hb=>(m.box b x r hx hb).mono (aH.le_refl C) fun j y u hz=>yV c5 (by simp) hz }
  ·intro t x hx
   rcases q1h hl hx with⟨rfl,rfl⟩|⟨bB,eR⟩
   ·exact⟨cv,h1,h2,by simp⟩
   ·obtain⟨u,k1,k2,k3⟩:=e t x eR
    exact⟨u,k1,k2,fun h=>yV c5 (by simpa using bB) (k3 h)⟩
 ·refine⟨C,ω,aH.le_refl C,m,e.strip _,h2,fun h=>absurd h hk⟩
theorem q4u (m:ax P C ω w0 C0 hp w)(e:ak C ω w w0.heap.size env a.tmps){t:TypeId}{x x' b q v ow cs h'}(ho:o.op=.load t x)(dr:yr P t=I Gn)
  (h1:qu x=I x') (e1:qi env x'=I (.ptr b q)) (lA:jy hp b=I cs) (hc:cs[q]?=I (v,ow)) (bw:jt hp b (.cells (cs.set q (v,Gn)))=I h'):
  ∃u w',(execOp a.eval o).run P w=.ok (.value u) w'∧zq P C0 w0 C a.tmps d env ⟨v,ow,Ey,h'⟩ u w':=by
 obtain⟨r,hr,hq⟩:=(qw e.cq h1 e1).dy
 obtain⟨vs,te,hg,db,hold⟩:=m.box b _ r (wK lA) hr
 obtain⟨cv,k1,k2,k3,k4⟩:=hold q _ hc
 obtain rfl:=Bq bw
 have ej:w.cell? ⟨r,q,Ey⟩=I cv:=by
  simp only[World.cell?,hg]
  simpa using k1
 have bE:(execOp a.eval o).run P w=.ok (.value cv) w:=by
  simp[execOp,ho,hq,Instr.loadAt,Instr.sureAddr,GH dr ej]
 have hu:nE w w r:=⟨rfl,fun _ _=>rfl,fun c t fr h=>by rw[hg]at h;cases h;rfl,rfl,rfl⟩
 have gO:∀ω':Nat→Option Loc,(∀j c u,j≠q→aI C ω w w0.heap.size (.cell b j) c u→aI C ω' w w0.heap.size (.cell b j) c u)→bD P C ω' w w0.heap.size b r (.cells (cs.set q (v,Gn))):=by
  intro ω' hk
  refine⟨vs,te,hg,by simpa using db,fun j c hj=>?_⟩
  rw[Y0]at hj
  split at hj
  ·rename_i Vg
   subst Vg
   split at hj
   ·cases hj;exact⟨cv,k1,k2,k3,by simp⟩
   ·cases hj
  ·rename_i Vg
   obtain⟨u,a1,a2,a3,a4⟩:=hold j c hj
   exact⟨u,a1,a2,a3,fun h=>hk _ _ _ (N9 Vg) (a4 h)⟩
 refine⟨cv,w,bE,?_⟩
 by_cases hk:ow=Gp
 ·subst hk
  have c5:=k4 rfl
  refine⟨C,vt ω v cv d,aH.le_refl C,?_,?_,k3,fun _=>Mb c5⟩
  ·exact m.dX hu hr _ (fun b' j y u fN hz=>yV c5 (by simp[fN]) hz) (gO _ fun j c u hj hz=>yV c5 (by simp[hj]) hz)
  ·exact fun t x hx=>let ⟨u,k1,k2,k3⟩:=e t x hx; ⟨u,k1,k2,fun h=>yV c5 (by simp) (k3 h)⟩
 ·refine⟨C,ω,aH.le_refl C,m.dX hu hr _ (fun _ _ _ _ _ h=>h) (gO _ fun _ _ _ _ h=>h),e,k3,fun h=>absurd h hk⟩
end
section
variable {P:Program}{C C0:aH}{ω:Nat→Option Loc}{w w' w0:World}{hp:qh}{env:Env}{a:Act}{o:Oper}{tmps:Array Value}{d:Loc}
theorem qzt (m:ax P C ω w0 C0 hp w)(e:ak C ω w w0.heap.size env a.tmps){t el:TypeId}{x y:Operand}{x' y':jx}{n sz b h0 rk:Nat}{z h'}
  (ho:o.op=.makeSlice t x y) (ht:P.underlying t=I (.slice el)) (hn:js P el=I sz) (hb:oh P el=I b) (hz:yw P el=I z) (Vh:0<sz) (iz:z.length=sz)
  (h1:qu x=I x') (h2:qu y=I y') (e1:qi env x'=I (.int .i64 (n:Int))) (e2:qi env y'=I (.int .i64 (n:Int))) (hle:n≤1073741824) (jN:b≤4096)
  (dw:aJ h0 hp rk (.cells (cellsOf (G5 n z).flatten))=I h'):
  ∃v w',(execOp a.eval o).run P w=.ok (.value v) w'∧zq P C0 w0 C a.tmps d env ⟨.ms (h0+rk) 0 n,Gn,Ey,h'⟩ v w':=by
 obtain⟨hh,rfl⟩:=y8 dw
 obtain⟨qQ,zv,lz,cT,lN⟩:=vp (C:=C) hz
 have nz:zv.cells.toList.length=sz:=by rw[cT.length,iz]
 have jZ:((Hr (n*sz)).map (fun i=>zv.cells[i % zv.cells.size]!)).toList=(G5 n zv.cells.toList).flatten:=by
  have:=L8 nz Vh n
  simpa using this
 have r1:=(qw e.cq h1 e1).bO
 have r2:=(qw e.cq h2 e2).bO
 have gq:aV C (G5 n z).flatten ((Hr (n*sz)).map (fun i=>zv.cells[i % zv.cells.size]!)).toList:=by
  rw[jZ];exact cT.replicate n
 obtain⟨i,hi,qV⟩:∃i,P.info? el=I i∧i.bytes=b:=by
  unfold oh at hb
  cases hi:P.info? el with
  |none=>simp[hi]at hb
  |some i=>exact⟨i,rfl,by simpa[hi]using hb⟩
 have kQ:i.size=sz:=by
  unfold js at hn
  rw[hi]at hn
  simpa using hn
 have qW:IntKind.i64.wrap (n:Int)=n:=by
  rw[←Bf];unfold qe
  have:qM .i64 (n:Int)=Gp:=by simp[qM];exact Hz hle (by decide)
  rw[this];rfl
 have Bd:b*n≤281474976710656:=Hz (J4 jN hle) (by decide)
 obtain⟨m',e',cX⟩:=m.aJ e hh (.cells ((Hr (n*sz)).map (fun i=>zv.cells[i % zv.cells.size]!)) el) (fun c t fr h=>by cases h;rfl) (.cells (cellsOf (G5 n z).flatten))
  (Ve gq (by
   intro x h
   rw[V0]at h
   obtain⟨l,q1,q2⟩:=h
   obtain⟨_,rfl⟩:=Ie.1 q1
   exact qQ x q2) (by intro j v h;rw[Hb]at h;exact h) (by have:=gq.length;simp at this;simp;omega))
 refine⟨.slice (I ⟨w.heap.size,0,Ey⟩) n n,w.alloc (.cells ((Hr (n*sz)).map (fun i=>zv.cells[i % zv.cells.size]!)) el),?_,_,_,cX,m',e',.ms _ _ _ _ _ (by simp[aH.box]) (Ha _),by simp⟩
 have c1:¬((b:Int)*(n:Int) > 2^48):=by
  have h1:((b*n:Nat):Int)≤281474976710656:=Int.ofNat_le.2 Bd
  rw[Int.natCast_mul]at h1
  have h2:(2:Int)^48=281474976710656:=by decide
  rw[h2];omega
 have c2:¬((n:Int)<0):=by omega
 have hr:Hr 0=#[]:=rfl
 simp only[execOp,ho,Instr.makeSlice,Sem.run_bind,run_underlying ht,r1,r2,asInt,asIntOf,Sem.run_pure,Result.andThen_ok,typeInfo,run_program,hi,qV,qW,c2,c1,decide_false,Ze,Hu,if_false,Int.lt_irrefl,gt_iff_lt,run_askRoom,Int.toNat_natCast,yo hn,newRow]
 by_cases Bh:n=0
 ·subst Bh
  simp[hr]
 ·have bB:¬(n*sz=0):=by
   intro h
   rcases V4.1 h with h|h<;>omega
  simp[bB,lz]
theorem j81 (m:ax P C ω w0 C0 hp w)(e:ak C ω w w0.heap.size env tmps){b r s cells}{t:TypeId}{us news}(hh:hp[b]?=I .hole)(hω:ω r=I (.slot s))(hB:w0.heap.size≤r∨C.W r)(hβ:∀b,C.β b≠I r)
  (hg:w.heap[r]?=I (.cells cells t (0,0))) (hK:∀o,C.K r o=Ey) (cJ:news.length≤cells.size) (hH:aV C us news) (dh:∀v∈news,v.oneCell'=Gp):
  ax P (C.box b r) ω w0 C0 (hp.set b (.cells (cellsOf us))) (w.setRow r (cells.toList.take 0++news++cells.toList.drop (0+news.length)).toArray) ∧
  ak (C.box b r) ω (w.setRow r (cells.toList.take 0++news++cells.toList.drop (0+news.length)).toArray) w0.heap.size (yf env (I s)) tmps∧C.le (C.box b r):=by
 have hu:=Gu hg (cells.toList.take 0++news++cells.toList.drop (0+news.length)).toArray
 have lR:=setRow_heap w r cells (cells.toList.take 0++news++cells.toList.drop (0+news.length)).toArray t (0,0) hg
 generalize w.setRow r (cells.toList.take 0++news++cells.toList.drop (0+news.length)).toArray=w' at hu lR
 have Vi:=GJ m hh
 have hle:=aH.kU (C:=C) (r:=r) Vi
 have br:b<hp.length:=(G7.1 hh).1
 have Vj:r<w.heap.size:=(Hl.1 hg).1
 have c5:∀ℓ x v,ℓ≠.slot s→aI C ω w w0.heap.size ℓ x v→aI (C.box b r) ω w' w0.heap.size ℓ x v:=by
  intro ℓ x v hℓ ho
  have bB:ω r≠I ℓ:=by rw[hω];intro h;exact hℓ (I.inj h).symm
  exact(ho.box (.inr bB)).iO hu bB
 refine⟨?_,?_,hle⟩
 ·refine { base:=m.base,know:=?_,dv:=m.dv,apart:=?_,inj:=?_,lt:=?_,size:=?_,frame:=?_,fF:=?_,os:=hu.os.trans m.os,output:=hu.output.trans m.output,fresh:=?_,grown:=aH.le_trans m.grown hle,old:=m.old,box:=?_,iH:=fun q hq=>by rw[hu.size];exact m.iH q hq }
  ·intro k q v hk
   have iA:k≠r:=fun h=>by
    have eV:C.K k q=I v:=hk
    rw[h,hK q]at eV;cases eV
   have hc:=m.know _ _ _ hk
   simp only[World.cell?]at hc ⊢
   rw[hu.other k iA];exact hc
  ·intro k q p hk
   simp only[aH.box]at hk
   split at hk
   ·cases hk;exact hK p
   ·exact m.apart k q p hk
  ·intro k k' q hk eV
   simp only[aH.box]at hk eV
   split at hk<;>split at eV
   ·rename_i h1 h2;rw[h1,h2]
   ·cases hk;exact absurd eV (hβ k')
   ·cases eV;exact absurd hk (hβ k)
   ·exact m.inj k k' q hk eV
  ·intro k q hk
   rw[J5,hu.size]
   simp only[aH.box]at hk
   split at hk
   ·rename_i h1;cases hk;subst h1;exact⟨Vj,br⟩
   ·exact m.lt k q hk
  ·rw[hu.size];exact m.size
  ·intro k hk hn hw
   have iA:k≠r:=fun h=>by
    subst h
    rcases hB with h|h
    ·omega
    ·rw[m.grown.w]at h;exact hw h
   rw[hu.other k iA];exact m.frame k hk hn hw
  ·intro k hk
   have iA:k≠r:=fun h=>by
    subst h
    have:=m.fF k hk
    rw[hg]at this;cases this
   rw[hu.other k iA];exact m.fF k hk
  ·intro k q hk
   simp only[aH.box]at hk
   split at hk
   ·cases hk
    rcases hB with h|h
    ·exact .inr (.inl h)
    ·rw[m.grown.w]at h;exact .inr (.inr h)
   ·exact m.fresh k q hk
  ·intro k x q hx hk
   simp only[aH.box]at hk
   split at hk
   ·rename_i h1
    subst h1
    cases hk
    rw[Hq br]at hx
    cases hx
    have nD:=hH.length
    refine⟨_,t,lR,by simp[cellsOf];omega,?_⟩
    intro j c hc
    simp only[cellsOf,Ih,En]at hc
    obtain⟨x,hx,rfl⟩:=hc
    obtain⟨v,h1,h2⟩:=hH.get hx
    have hj:j<news.length:=(G7.1 h1).1
    refine⟨v,?_,dh v (Hx h1),aC.mono hle h2,by simp⟩
    simp only[List.take_zero,Mt,Hd]
    rw[G6 hj];exact h1
   ·rename_i h1
    rw[Ib (N9 h1)]at hx
    have bB:q≠r:=fun h=>hβ k (h▸hk)
    have kC:bD P C ω w' w0.heap.size k q x:=(m.box k x q hx hk).iO hu bB (fun j=>by rw[hω];simp)
    exact kC.mono hle fun j y v ho=>ho.box (.inr (by rw[hω];simp))
 ·intro t' x hx
  by_cases lQ:t'=s
  ·subst lQ
   simp only[yf]at hx
   cases hl:jj t' env with
   |none=>rw[hl]at hx;simp only[hl]at hx;cases hx
   |some y=>
    rw[hl]at hx
    simp only[jj,V3,cond_true]at hx
    cases hx
    obtain⟨v,h2,h3,_⟩:=e t' y hl
    exact⟨v,h2,aC.mono hle h3,by simp⟩
  ·have eR:jj t' env=I x:=by
    simp only[yf]at hx
    cases hl:jj s env with
    |none=>rw[hl]at hx;exact hx
    |some y=>
     rw[hl]at hx
     simp only[jj]at hx
     have:Hm s t'=Gn:=by
      cases hb:Hm s t' with
      |false=>rfl
      |true=>exact absurd (Gs hb).symm lQ
     rw[this]at hx
     exact hx
   obtain⟨v,h2,h3,h4⟩:=e t' x eR
   exact⟨v,h2,aC.mono hle h3,fun h=>c5 _ _ _ (by simp[lQ]) (h4 h)⟩
theorem q7z {xs vs}{t:TypeId}{B b r cells}(hr:aV C xs vs)(dh:∀v∈vs,v.oneCell'=Gp)(hv:∀(j:Nat) v,vs[j]?=I v→cells[j]?=I v)(hl:xs.length≤cells.size):
  ∀C' ω' w',C.le C'→w'.heap[r]?=I (.cells cells t (0,0))→bD P C' ω' w' B b r (.cells (cellsOf xs)):=by
 intro C' ω' w' hle hg
 refine⟨cells,t,hg,by simpa[cellsOf]using hl,?_⟩
 intro j c hc
 simp only[cellsOf,Ih,En]at hc
 obtain⟨x,hx,rfl⟩:=hc
 obtain⟨v,h1,h2⟩:=hr.get hx
 exact⟨v,hv j v h1,dh v (Hx h1),aC.mono hle h2,by simp⟩
theorem q1a (m:ax P C ω w0 C0 hp w)(e:ak C ω w w0.heap.size env a.tmps){c}{t u el:TypeId}{ut:TypeDesc}{x y x' y' sz b h0 rk n dq ys vy h'}
  (ho:o.op=.call c) (eg:c.callee=.builtin .append) (eu:c.args.toList=[x,y]) (eS:c.argTypes.toList=[t,u]) (ht:P.underlying t=I (.slice el)) (hu:P.underlying u=I ut) (jO:A6 ut=Gp)
  (hn:js P el=I sz) (hb:oh P el=I b) (h1:qu x=I x') (h2:qu y=I y') (e1:qi env x'=I (.list n dq [])) (e2:qi env y'=I vy) (cW:z7 sz vy=I ys)
  (c5:(zu env x').isSome=Gp) (Vk:n=Gn) (hlen:ys.length≤1073741824) (jN:b≤4096) (hzero:∃z,yw P el=I z∧z.length=sz) (Bo:sz=dq)
  (dw:aJ h0 hp rk (.cells (cellsOf (ys.flatMap AVal.flat)))=I h'):
  ∃v w',(execOp a.eval o).run P w=.ok (.value v) w'∧zq P C0 w0 C a.tmps d env ⟨.ms (h0+rk) 0 ys.length,Gn,zu env x',h'⟩ v w':=by
 obtain⟨hh,rfl⟩:=y8 dw
 subst Vk
 subst Bo
 have ha:c.args=#[x,y]:=by apply Hp;simpa using eu
 have lM:c.argTypes=#[t,u]:=by apply Hp;simpa using eS
 obtain⟨i,hi,qV⟩:∃i,P.info? el=I i∧i.bytes=b:=by
  unfold oh at hb
  cases hi:P.info? el with
  |none=>simp[hi]at hb
  |some i=>exact⟨i,rfl,by simpa[hi]using hb⟩
 have kQ:i.size=sz:=by
  unfold js at hn;rw[hi]at hn;simpa using hn
 obtain⟨z,hz,Bp⟩:=hzero
 obtain⟨zv,nC⟩:∃zv,i.zero=I zv:=by
  unfold yw at hz;rw[hi]at hz
  cases hq:i.zero with
  |none=>simp[hq]at hz
  |some v=>exact⟨v,rfl⟩
 have rx:=qw e.cq h1 e1
 have ry:=qw e.cq h2 e2
 obtain⟨news,hs,df,fW,dh⟩:=L9 m hu jO cW ry
 have fh:∀ {z:Value} {w':World},(Builtin.append_ #[t,u] o.type #[a.eval x,a.eval y]).run P w=.ok z w'→(execOp a.eval o).run P w=.ok (.value z) w':=by
  intro z w' h
  simp[execOp,ho,resolve,eg,ha,lM,invoke,builtin,h]
 have nD:news.length=ys.length*sz:=by rw[df.length,yn ys fW]
 rcases rx.de with⟨hh1,_,_⟩|⟨_,r,q,cap,hx,hle,du⟩|⟨_,_,ad,mJ,hx⟩
 rotate_right
 ·exact absurd (q44 e h1 c5 e1 hx) mJ
 ·cases hh1
 ·obtain⟨s,hJ⟩:=J6.1 c5
  obtain⟨eR,v0,hl⟩:=Gx hJ
  have jD:v0=.list Gn sz []:=by
   subst eR
   simp only[qi,hl]at e1
   exact I.inj e1
  subst jD
  obtain⟨cv,yT,Ma,Bn⟩:=e s _ hl
  have oV:cv=.slice (I ⟨r,q,Ey⟩) 0 cap:=by
   have iP:qu x=I (.tmp s):=by rw[h1,eR]
   cases x with
   |tmp t'=>
    simp only[qu]at iP
    cases iP
    have:a.eval (.tmp s)=cv:=by simp[Act.eval,He,yT]
    rw[←this,hx];rfl
   |const u=>simp only[qu]at iP;split at iP<;>cases iP
   |func f=>simp[qu]at iP
   |global g=>simp[qu]at iP
  subst oV
  obtain⟨hω,hB,hβ,_,EF,⟨cells,te,hg,cJ⟩,hK⟩:=Bn rfl
  simp only at hω hB hβ hg cJ hK EF
  subst EF
  simp only[List.length_nil]at hx
  by_cases eC:0+ys.length≤cap
  ·have gN:(0+ys.length)*sz≤cap*sz:=Hh _ eC
   have bE:=Va (P:=P) (w:=w) (ty:=o.type) ht hi r 0 0 cap (a.eval y) ys.length news (kQ▸hs) eC hg (by rw[nD];simp at gN cJ ⊢;omega)
   rw[←hx]at bE
   have e0:0+0*i.size=0:=by simp
   rw[e0]at bE
   obtain⟨m',e',cX⟩:=j81 (tmps:=a.tmps) m e hh hω hB hβ hg (fun o=>hK o (by simp)) (by rw[nD];simp at gN cJ ⊢;omega) df dh
   rw[hJ]
   refine⟨_,_,fh bE,_,_,cX,m',e',?_,by simp⟩
   have:=aC.ms (C:=C.box (h0+rk) r) (h0+rk) 0 ys.length r cap (by simp[aH.box]) (by omega)
   simpa using this
  ·have GN:Builtin.nextslicecap (0+ys.length) cap*i.bytes≤281474976710656:=growslice_fits (by omega) (by
    rw[qV]
    exact Hz (J4 (by omega) jN) (by decide:2^30*4096≤_))
   have bE:=run_append_grow_src w t u o.type el i zv ht hi nC (I ⟨r,0,Ey⟩) 0 cap [] (run_firstCells_some _ _ _ _ _ _ [] (by simp) (by simp)) (a.eval y) ys.length news (kQ▸hs) (by omega) (by omega) GN
   rw[←hx]at bE
   have vr:=grownCap_ge w (0+ys.length) cap el
   have iQ:Ext w w.drew:=Ext.drew w
   obtain⟨m',e',cX⟩:=(m.ext iQ).aJ (e.ext iQ) hh (.cells (([]++news).toArray++Builtin.zeroCells zv.cells (grownCap w (0+ys.length) cap el-(0+ys.length))) el) (fun c t fr h=>by cases h;rfl) (.cells (cellsOf (ys.flatMap AVal.flat)))
    (q7z df dh (by
     intro j v hj
     rw[Hy (by simpa using(G7.1 hj).1)]
     simpa using hj) (by have h5:=df.length;rw[Oz];simp only[Mt,Ml];omega))
   refine⟨_,_,fh bE,_,_,cX,m',e'.strip _,?_,by simp⟩
   have:=aC.ms (C:=C.box (h0+rk) w.drew.heap.size) (h0+rk) 0 ys.length w.drew.heap.size (grownCap w (0+ys.length) cap el) (by simp[aH.box]) (by omega)
   simpa using this
end
section
variable {P:Program}{C C0:aH}{ω:Nat→Option Loc}{w w' w0:World}{hp:qh}{env:Env}{a:Act}{o:Oper}{tmps:Array Value}{d:Loc}
theorem Md {b bG len v}(h:bN C (.aw b bG len) v):∃r0 r cap,C.β b=I r0∧C.T (r0,bG,r,cap)∧len≤cap∧v=.slice (I ⟨r,0,Ey⟩) len cap:=by
 cases h with
 |aw _ _ _ r0 r cap hb ht hl=>exact⟨r0,r,cap,hb,ht,hl,rfl⟩
theorem q8m {b bG off v}(h:bN C (.dQ b bG off) v):∃r0 r cap,C.β b=I r0∧C.T (r0,bG,r,cap)∧v=.pointer (I ⟨r,off,Ey⟩):=by
 cases h with
 |dQ _ _ _ r0 r cap hb ht=>exact⟨r0,r,cap,hb,ht,rfl⟩
theorem qzq {t:TypeId}{x x' i fs f n b bG q}(he:bp C env a.tmps)(ho:o.op=.fieldAddr t x i)(ht:P.underlying t=I (.struct fs))(hf:fs[i]?=I f)
  (hn:js P f.type=I n) (Bh:0<n) (h1:qu x=I x') (e1:qi env x'=I (.dQ b bG q)):Val P C a o w (.dQ b bG (q+f.offset)):=by
 obtain⟨r0,r,cap,hb,hT,hq⟩:=q8m (qw he h1 e1)
 refine⟨.pointer (I ⟨r,q+f.offset,Ey⟩),?_,.dQ _ _ _ r0 r cap hb hT⟩
 simp[execOp,ho,Instr.fieldAt,run_underlying ht,hf,hq,Instr.sureAddr,fieldPlace,yo hn,Nat.pos_iff_ne_zero.1 Bh,add_lit]
theorem qz5 {t e:TypeId}{x i x' i' sz iv b bG len j}(he:bp C env a.tmps)(ho:o.op=.indexAddr t x i)(ht:P.underlying t=I (.slice e))
  (hn:js P e=I sz) (h1:qu x=I x') (h2:qu i=I i') (e1:qi env x'=I (.aw b bG len)) (e2:qi env i'=I iv) (hj:idx len iv=I j):Val P C a o w (.dQ b bG (j*sz)):=by
 obtain⟨r0,r,cap,hb,hT,_,hq⟩:=Md (qw he h1 e1)
 obtain⟨k,rfl,br⟩:=Gr hj
 have hi:=(qw he h2 e2).bO
 refine⟨.pointer (I ⟨r,j*sz,Ey⟩),?_,.dQ _ _ _ r0 r cap hb hT⟩
 simp[execOp,ho,Instr.indexAt,run_underlying ht,hq,hi,asIntOf,yo hn,br,add_lit]
theorem jdz {t e:TypeId}{x lo hi x' lK fC sz j b bG len}(he:bp C env a.tmps)(ho:o.op=.slice t x lo hi Ey)(ht:P.underlying t=I (.slice e))
  (hn:js P e=I sz) (h1:qu x=I x') (h2:nv lo=I lK) (h3:nv hi=I fC) (e1:qi env x'=I (.aw b bG len)) (b2:fL env len len fC=I j) (b1:fL env 0 j lK=I 0):Val P C a o w (.aw b bG j):=by
 obtain⟨r0,r,cap,hb,hT,hl,hq⟩:=Md (qw he h1 e1)
 obtain⟨iJ,k1,k2⟩:=L5 (P:=P) (isS:=true) he h2 h3 b2 b1 hl w
 refine⟨.slice (I ⟨r,0,Ey⟩) j cap,?_,.aw _ _ _ r0 r cap hb hT (by omega)⟩
 simp[execOp,ho,Instr.sliceAt,Instr.slice,run_underlying ht,hq,iJ,yo hn,add_lit]
theorem jhj {c x}{t e:TypeId}{x' b bG n}(he:bp C env a.tmps)(ho:o.op=.call c)(eg:c.callee=.builtin .len)(eu:c.args.toList=[x])(eS:c.argTypes.toList=[t])
  (h1:qu x=I x') (e1:qi env x'=I (.aw b bG n)) (ht:P.underlying t=I (.slice e)):Val P C a o w (.int .i64 n):=by
 have ha:c.args=#[x]:=by apply Hp;simpa using eu
 have lM:c.argTypes=#[t]:=by apply Hp;simpa using eS
 refine⟨.int .i64 n,?_,.int _ _⟩
 simp only[execOp,ho,resolve,eg,ha,lM,Sem.run_bind,Sem.run_pure,Result.andThen_ok,invoke,builtin,Builtin.len_]
 obtain⟨r0,r,cap,_,_,_,hq⟩:=Md (qw he h1 e1)
 simp[run_underlying ht,hq,goInt]
theorem jkp (m:ax P C ω w0 C0 hp w){b bG q cap r0 sz xs}(hb:C.β b=I r0)(hT:C.T (r0,bG,q,cap))(gP:hp[b]?=I (.vec sz bG xs)):
  ∃vs,aV C (xs.flatMap AVal.flat) vs∧(∀(j:Nat) v,vs[j]?=I v→w.cell? ⟨q,j,Ey⟩=I v∧v.oneCell'=Gp)∧ez C.K w q sz xs cap:=by
 obtain⟨q',kW,k1,k2,k3,k4,_⟩:=m.box b _ r0 gP hb
 have heq:=(k2 _ hT rfl).2 rfl
 simp only[Prod.mk.injEq]at heq
 obtain⟨rfl,rfl⟩:=heq
 obtain⟨cells,t,vs,g1,g2,g3,g4,g5,g6,g7⟩:=id k3
 refine⟨vs,aC.imp (C:=.bW C.K) (C':=C) ⟨fun _ _ _ h=>h,fun b r h=>by cases h⟩ g5 (fun _ h=>h.elim),fun j v hj=>⟨?_,g7 v (Hx hj)⟩,k3⟩
 unfold World.cell?
 rw[g1]
 simp only[If,Hu,if_false]
 exact g6 j v hj
theorem qz9 (m:ax P C ω w0 C0 hp w)(he:bp C env a.tmps){t:TypeId}{x x' n ag b bG q sz xs v}(ho:o.op=.load t x)(hg:yr P t=I ag)(hn:js P t=I n)(h1:qu x=I x')(e1:qi env x'=I (.dQ b bG q))
  (gP:hp[b]?=I (.vec sz bG xs)) (hl:q+n≤(xs.flatMap AVal.flat).length) (hv:(ag=Gp∧v=.agg (((xs.flatMap AVal.flat).drop q).take n))∨(ag=Gn∧((xs.flatMap AVal.flat).drop q).take n=[v])):Val P C a o w v:=by
 obtain⟨r0,r,cap,hb,hT,hq⟩:=q8m (qw he h1 e1)
 obtain⟨vs,k1,k2,_⟩:=jkp m hb hT gP
 have k3:aV C (((xs.flatMap AVal.flat).drop q).take n) ((vs.drop q).take n):=(k1.drop q).take n
 have k4:∀j u,((vs.drop q).take n)[j]?=I u→w.cell? ⟨r,q+j,Ey⟩=I u:=by
  intro j u hj
  rw[X3]at hj
  split at hj
  ·rw[Mv]at hj;exact(k2 _ _ hj).1
  ·cases hj
 have k5:((vs.drop q).take n).length=n:=by rw[k3.length,Y1,List.length_drop];omega
 rcases hv with⟨rfl,rfl⟩|⟨rfl,hv⟩
 ·exact⟨.agg ⟨(vs.drop q).take n⟩,by simp[execOp,ho,Instr.loadAt,hq,Instr.sureAddr,GG hg hn k5 k4],.agg _ _ k3⟩
 ·rw[hv]at k3
  generalize hgen:(vs.drop q).take n=us at k3 k4 k5
  cases k3 with
  |cons _ _ u us hu kP=>
   cases kP
   refine⟨u,?_,hu⟩
   have:=GH (P:=P) hg (by simpa using k4 0 u rfl)
   simp[execOp,ho,Instr.loadAt,hq,Instr.sureAddr,this]
def aH.tok (C:aH)(x:Nat×Nat×Nat×Nat):aH:={ C with T:=fun q=>C.T q∨q=x }
theorem aH.gQ {x}:C.le (C.tok x):=⟨fun _ _ _ h=>h,fun _ _ h=>h,rfl,fun _ h=>h,fun _ h=>.inl h⟩
theorem aI.tok {x B ℓ y v}(h:aI C ω w B ℓ y v):aI (C.tok x) ω w B ℓ y v:=by
 unfold aI at *
 exact h
theorem ak.tok {x B}(e:ak C ω w B env tmps):ak (C.tok x) ω w B env tmps:=
 fun s y hy=>let ⟨v,h1,h2,h3⟩:=e s y hy; ⟨v,h1,aC.mono aH.gQ h2,fun h=>(h3 h).tok⟩
theorem ax.ri (m:ax P C ω w0 C0 hp w){b r sz bG q cap xs}(hβ:C.β b=I r)(hT:∀x,C.T x→x.1=r→x.2.1<bG)(hv:ez C.K w q sz xs cap)(ho:q=r∨yQ C ω w w0.heap.size b q xs.length cap)(hr:∃cs t,w.heap[r]?=I (.cells cs t (0,0))):
  ax P (C.tok (r,bG,q,cap)) ω w0 C0 (hp.set b (.vec sz bG xs)) w:=by
 have br:=m.lt b r hβ
 refine { m with lt:=fun k p hk=>by rw[J5];exact m.lt k p hk,grown:=aH.le_trans m.grown aH.gQ,box:=?_,iH:=?_ }
 ·intro k y p hy hk
  by_cases kT:k=b
  ·subst kT
   rw[Hq br.2]at hy
   cases hy
   obtain rfl:r=p:=by have:C.β k=I p:=hk;rw[hβ]at this;exact I.inj this
   refine⟨q,cap,.inr rfl,fun x hx hxr=>?_,hv,ho.imp id fun h=>h.tok,hr⟩
   rcases hx with hx|rfl
   ·have:=hT x hx hxr
    exact⟨by omega,fun h=>by omega⟩
   ·exact⟨Ha _,fun _=>rfl⟩
  ·rw[Ib (N9 kT)]at hy
   have qU:p≠r:=fun h=>kT (m.inj k b p hk (h▸hβ))
   refine(m.box k y p hy hk).mono aH.gQ (fun j z u h=>h.tok) (fun x hx hxp=>?_)
   rcases hx with hx|rfl
   ·exact hx
   ·exact absurd hxp.symm qU
 ·intro x hx
  rcases hx with hx|rfl
  ·exact m.iH x hx
  ·exact br.1
theorem ax.rj (m:ax P C ω w0 C0 hp w){b r}(hβ:C.β b=I r)(hr:∃cs t,w.heap[r]?=I (.cells cs t (0,0))):ax P C ω w0 C0 (hp.set b .dead) w:=
 m.dX (ω':=ω) (w':=w) (r:=r) (b:=b) ⟨rfl,fun _ _=>rfl,fun c t fr h=>by obtain⟨cs,t',h'⟩:=hr;rw[h']at h;cases h;rfl,rfl,rfl⟩ hβ .dead (fun _ _ _ _ _ h=>h) hr
theorem ax.Bs (m:ax P C ω w0 C0 hp w){b q n cap cs}(hd:hp[b]?=I .dead)(ho:yQ C ω w w0.heap.size b q n cap)(hu:gM w w' q cs):ax P C ω w0 C0 hp w':=by
 obtain⟨h1,h2,h3,_,_,⟨cells,elem,h5,_⟩,h7⟩:=ho
 simp only at h1 h2 h3 h5 h7
 have hK:∀o,C.K q o=Ey:=fun o=>h7 o (by simp)
 refine { base:=m.base,know:=?_,dv:=m.dv,apart:=m.apart,inj:=m.inj,lt:=?_,size:=?_,frame:=?_,fF:=?_,os:=hu.os.trans m.os,output:=hu.output.trans m.output,fresh:=m.fresh,grown:=m.grown,old:=m.old,box:=?_,iH:=fun x hx=>by rw[hu.size];exact m.iH x hx }
 ·intro k p v hk
  have bB:k≠q:=fun h=>by rw[h,hK p]at hk;cases hk
  have hc:=m.know _ _ _ hk
  simp only[World.cell?]at hc ⊢
  rw[hu.other k bB];exact hc
 ·intro k p hk;rw[hu.size];exact m.lt k p hk
 ·rw[hu.size];exact m.size
 ·intro k hk hn hw
  have bB:k≠q:=fun h=>by
   subst h
   rcases h2 with h|h
   ·omega
   ·rw[m.grown.w]at h;exact hw h
  rw[hu.other k bB];exact m.frame k hk hn hw
 ·intro k hk
  have bB:k≠q:=fun h=>by
   subst h
   have:=m.fF k hk
   rw[h5]at this;cases this
  rw[hu.other k bB];exact m.fF k hk
 ·intro k x p hx hk
  have bB:p≠q:=fun h=>h3 k (h▸hk)
  by_cases kT:k=b
  ·subst kT
   rw[hd]at hx
   cases hx
   obtain⟨eK,t',hg⟩:=m.box k .dead p hd hk
   exact⟨eK,t',by rw[hu.other p bB];exact hg⟩
  ·exact(m.box k x p hx hk).iO hu bB (fun j=>by rw[h1];intro h;injection h with h;injection h with h _;exact kT h.symm)
theorem qpq {sz}:∀ {xs:List AVal} (n:Nat),(∀x∈xs,x.flat.length=sz)→(xs.take n).flatMap AVal.flat=(xs.flatMap AVal.flat).take (n*sz)
 | [],n,_=>by simp
 |x::xs,0,_=>by simp
 |x::xs,n+1,h=>by
  have hx:=h x (X4 ..)
  have h1:x.flat.take ((n+1)*sz)=x.flat:=List.take_of_length_le (by rw[hx,X5];omega)
  have h2:(n+1)*sz-sz=n*sz:=by rw[X5];omega
  rw[List.take_succ_cons,J0,J0,qpq n (fun y hy=>h y (Xn _ hy)),List.take_append,hx,h1,h2]
theorem ez.grown {K q q' sz len cap kW xs ys news eM dR}{t':TypeId}(h:ez K w q sz xs cap)(hl:len≤xs.length)(df:aV (.bW K) (ys.flatMap AVal.flat) news)(fW:∀y∈ys,y.flat.length=sz)(dh:∀v∈news,v.oneCell'=Gp)
  (hold:∀vs:List Value,aV (.bW K) (xs.flatMap AVal.flat) vs→(∀(j:Nat) v,vs[j]?=I v→w.cell? ⟨q,j,Ey⟩=I v)→eM=vs.take (len*sz)) (hcap:len+ys.length≤kW) (cJ:kW*sz≤dR.size)
  (hg:w'.heap[q']?=I (.cells dR t' (0,0))) (hc:∀(j:Nat) v,(eM++news)[j]?=I v→dR[j]?=I v):ez K w' q' sz (xs.take len++ys) kW:=by
 obtain⟨cells,t,vs,g1,g2,g3,g4,g5,g6,g7⟩:=h
 have ho:eM=vs.take (len*sz):=hold vs g5 (fun j v hj=>by
  unfold World.cell?
  rw[g1]
  simp only[If,Hu,if_false]
  exact g6 j v hj)
 refine⟨dR,t',eM++news,hg,by rw[J7,Y1];omega,cJ,?_,?_,hc,?_⟩
 ·intro x hx
  rcases Ig.1 hx with hx|hx
  ·exact g4 x (Mn hx)
  ·exact fW x hx
 ·rw[Xp,qpq len g4,ho]
  exact(g5.take _).append df
 ·intro v hv
  rcases Ig.1 hv with hv|hv
  ·rw[ho]at hv;exact g7 v (Mn hv)
  ·exact dh v hv
theorem aV.pure {xs vs}(h:aV C xs vs)(hb:qx 0 xs=Gp):aV (.bW C.K) xs vs:=
 aC.shift (C:=C) (C':=.bW C.K) 0 (fun _ _ _ h=>h) (fun b r br=>by omega) h hb
theorem Vl {n}:∀ {xs:List AVal},qx n xs=Gp→qx n (xs.flatMap AVal.flat)=Gp
 | [],_=>rfl
 |x::xs,h=>by
  simp only[qx,Hj]at h
  have key:∀(ys zs:List AVal),qx n ys=Gp→qx n zs=Gp→qx n (ys++zs)=Gp:=by
   intro ys zs
   induction ys with
   |nil=>intro _ h;exact h
   |cons y ys ih=>intro h1 h2;simp only[qx,Hj,List.cons_append]at h1 ⊢;exact⟨h1.1,ih h1.2 h2⟩
  rw[J0]
  exact key _ _ (by rw[LX];exact h.1) (Vl h.2)
theorem aV.fun {xs}:∀ {vs ws:List Value},aV C xs vs→aV C xs ws→vs.length=ws.length:=fun h k=>by rw[h.length,k.length]
theorem jmq (m:ax P C ω w0 C0 hp w)(e:ak C ω w w0.heap.size env a.tmps){c}{t u el:TypeId}{ut:TypeDesc}{x y x' y' sz b bx bG len xs ys vy h'}
  (ho:o.op=.call c) (eg:c.callee=.builtin .append) (eu:c.args.toList=[x,y]) (eS:c.argTypes.toList=[t,u]) (ht:P.underlying t=I (.slice el)) (hu:P.underlying u=I ut) (jO:A6 ut=Gp)
  (hn:js P el=I sz) (hb:oh P el=I b) (h1:qu x=I x') (h2:qu y=I y') (e1:qi env x'=I (.aw bx bG len)) (e2:qi env y'=I vy) (cW:z7 sz vy=I ys)
  (gP:hp[bx]?=I (.vec sz bG xs)) (hle:len≤xs.length) (hlen:len+ys.length≤1073741824) (jN:b≤4096) (Vm:qx 0 ys=Gp) (hzero:∃z,yw P el=I z∧z.length=sz)
  (bw:jt hp bx (.vec sz (bG+1) (xs.take len++ys))=I h'):
  ∃v w',(execOp a.eval o).run P w=.ok (.value v) w'∧zq P C0 w0 C a.tmps d env ⟨.aw bx (bG+1) (len+ys.length),Gn,Ey,h'⟩ v w':=by
 have gu:h'=hp.set bx (.vec sz (bG+1) (xs.take len++ys)):=by
  unfold jt at bw
  cases wL:Zk bx hp.length with
  |false=>simp[wL]at bw
  |true=>simpa[wL]using bw.symm
 subst gu
 have ha:c.args=#[x,y]:=by apply Hp;simpa using eu
 have lM:c.argTypes=#[t,u]:=by apply Hp;simpa using eS
 obtain⟨i,hi,qV⟩:∃i,P.info? el=I i∧i.bytes=b:=by
  unfold oh at hb
  cases hi:P.info? el with
  |none=>simp[hi]at hb
  |some i=>exact⟨i,rfl,by simpa[hi]using hb⟩
 have kQ:i.size=sz:=by
  unfold js at hn;rw[hi]at hn;simpa using hn
 obtain⟨z,hz,Bp⟩:=hzero
 obtain⟨zv,nC⟩:∃zv,i.zero=I zv:=by
  unfold yw at hz;rw[hi]at hz
  cases hq:i.zero with
  |none=>simp[hq]at hz
  |some v=>exact⟨v,rfl⟩
 have ry:=qw e.cq h2 e2
 obtain⟨news,hs,df,fW,dh⟩:=L9 m hu jO cW ry
 have rm:aV (.bW C.K) (ys.flatMap AVal.flat) news:=df.pure (Vl Vm)
 have fh:∀ {z:Value} {w':World},(Builtin.append_ #[t,u] o.type #[a.eval x,a.eval y]).run P w=.ok z w'→(execOp a.eval o).run P w=.ok (.value z) w':=by
  intro z w' h
  simp[execOp,ho,resolve,eg,ha,lM,invoke,builtin,h]
 have nD:news.length=ys.length*sz:=by rw[df.length,yn ys fW]
 obtain⟨r0,q,cap,hβ,hT,hlc,hx⟩:=Md (qw e.cq h1 e1)
 obtain⟨q',kW,k1,k2,k3,k4,k5⟩:=m.box bx _ r0 gP hβ
 have heq:=(k2 _ hT rfl).2 rfl
 simp only[Prod.mk.injEq]at heq
 obtain⟨rfl,rfl⟩:=heq
 have rn:∀x,C.T x→x.1=r0→x.2.1<bG+1:=fun x hx hr=>by have:=(k2 x hx hr).1;omega
 have wL:=(m.lt bx r0 hβ).2
 -- the old cells
 obtain⟨cells,te,vs,g1,g2,g3,g4,g5,g6,g7⟩:=id k3
 have wJ:vs.length=xs.length*sz:=by rw[g5.length,yn xs g4]
 have hvle:xs.length*sz≤cap*sz:=Hh _ g2
 have hlle:len*sz≤xs.length*sz:=Hh _ hle
 have hold:∀rz:List Value,aV (.bW C.K) (xs.flatMap AVal.flat) rz→(∀(j:Nat) v,rz[j]?=I v→w.cell? ⟨q,j,Ey⟩=I v)→vs.take (len*sz)=rz.take (len*sz):=by
  intro rz h3 h4
  have hl':rz.length=vs.length:=by rw[h3.length,g5.length]
  have:rz=vs:=by
   apply Mx
   intro j
   by_cases hj:j<vs.length
   ·have h5:=h4 j _ (Hc (by omega))
    have h6:=g6 j _ (Hc hj)
    unfold World.cell? at h5
    rw[g1]at h5
    simp only[If,Hu,if_false]at h5
    rw[Hc hj,Hc (by omega),←h5,h6]
   ·rw[Jp (by omega),Jp (by omega)]
  rw[this]
 by_cases eC:len+ys.length≤cap
 ·-- there is room
  have gN:(len+ys.length)*sz≤cap*sz:=Hh _ eC
  rw[J1]at gN
  have bE:=Va (P:=P) (w:=w) (ty:=o.type) ht hi q 0 len cap (a.eval y) ys.length news (kQ▸hs) eC g1 (by rw[kQ,nD];omega)
  rw[←hx,kQ]at bE
  have lS:=Gu g1 (cells.toList.take (0+len*sz)++news++cells.toList.drop (0+len*sz+news.length)).toArray
  have lR:=setRow_heap w q cells (cells.toList.take (0+len*sz)++news++cells.toList.drop (0+len*sz+news.length)).toArray te (0,0) g1
  generalize U9:w.setRow q (cells.toList.take (0+len*sz)++news++cells.toList.drop (0+len*sz+news.length)).toArray=w' at bE lS lR
  have Bt:ez C.K w' q sz (xs.take len++ys) cap:=by
   refine ez.grown (eM:=vs.take (len*sz)) k3 hle rm fW dh hold eC (by simp;omega) lR ?_
   intro j v hj
   rw[Hd]
   have eS:(cells.toList.take (0+len*sz)).length=len*sz:=by simp;omega
   have lT:(vs.take (len*sz)).length=len*sz:=by simp;omega
   by_cases EG:j<len*sz
   ·rw[Ia,G6 (by rw[eS];exact EG)]
    rw[G6 (by rw[lT];exact EG),Hv EG]at hj
    rw[Hv (by omega),Hb]
    exact g6 j v hj
   ·rw[G9 (by rw[lT];omega),lT]at hj
    have hjn:j-len*sz<news.length:=(G7.1 hj).1
    rw[Ia,G9 (by rw[eS];omega),eS,G6 hjn]
    exact hj
  have fin:∀(m1:ax P C ω w0 C0 (hp.set bx .dead) w') (e1:ak C ω w' w0.heap.size env a.tmps) (GF:q=r0∨yQ C ω w' w0.heap.size bx q (xs.take len++ys).length cap) (wM:∃cs t,w'.heap[r0]?=I (.cells cs t (0,0))),
    zq P C0 w0 C a.tmps d env ⟨.aw bx (bG+1) (len+ys.length),Gn,Ey,hp.set bx (.vec sz (bG+1) (xs.take len++ys))⟩ (.slice (I ⟨q,0,Ey⟩) (len+ys.length) cap) w':=by
   intro m1 e1 GF wM
   have m2:=m1.ri (b:=bx) (sz:=sz) (bG:=bG+1) (q:=q) (cap:=cap) (xs:=xs.take len++ys) hβ rn Bt GF wM
   rw[Yg]at m2
   exact⟨_,ω,aH.gQ,m2,e1.tok,.aw _ _ _ r0 q cap hβ (.inr rfl) eC,by simp⟩
  refine⟨_,_,fh bE,?_⟩
  rcases k4 with rfl|k4
  ·refine fin ?_ (e.dM lS.iO hβ) (.inl rfl) ⟨_,_,lR⟩
   exact m.dX lS.iO hβ .dead (fun _ _ _ _ _ h=>h) ⟨_,_,lR⟩
  ·have hqr:q≠r0:=fun h=>k4.2.2.1 bx (by rw[hβ];exact congrArg I h.symm)
   have md:=m.rj hβ k5
   have m1:=md.Bs (by rw[Hq wL]) k4 lS
   obtain⟨Vn,t5,k5⟩:=k5
   refine fin m1 ?_ (.inr ?_) ⟨Vn,t5,by rw[lS.other _ (N9 hqr)];exact k5⟩
   ·exact fun s y hy=>let ⟨v,j1,j2,j3⟩:=e s y hy; ⟨v,j1,j2,fun h=>(j3 h).iO lS (by rw[k4.1];simp)⟩
   ·obtain⟨j1,j2,j3,j4,j5,_,j7⟩:=k4
    exact⟨j1,j2,j3,j4,j5,⟨_,te,lR,by simp,fun _ _ _ h=>by simp at h⟩,fun o ho=>j7 o (by simp)⟩
 ·-- there is none
  have cJ:Builtin.nextslicecap (len+ys.length) cap*i.bytes≤281474976710656:=growslice_fits (by omega) (by
   rw[qV]
   exact Hz (J4 hlen jN) (by decide))
  have GO:(vs.take (len*sz)).length=len*i.size:=by rw[kQ];simp;omega
  have bE:=run_append_grow_src w t u o.type el i zv ht hi nC (I ⟨q,0,Ey⟩) len cap (vs.take (len*sz)) (run_firstCells_some _ _ _ _ _ _ _ GO (fun j v hj=>by
   rw[X3]at hj
   split at hj
   ·have h3:=g6 j v hj
    have h4:w.cell? ⟨q,j,Ey⟩=I v:=by
     unfold World.cell?
     rw[g1]
     simp only[If,Hu,if_false]
     exact h3
    rw[add_lit,Yh]
    exact h4
   ·cases hj)) (a.eval y) ys.length news (kQ▸hs) (by omega) (by omega) cJ
  rw[←hx]at bE
  have vr:=grownCap_ge w (len+ys.length) cap el
  have iz:zv.cells.size=sz:=by
   obtain⟨_,zv',lN,Gz,_⟩:=vp (C:=C) hz
   have:=lN w
   simp[zeroValue,typeInfo,hi,nC]at this
   subst this
   have:=Gz.length
   simp at this
   omega
  generalize eN:((vs.take (len*sz)++news).toArray++Builtin.zeroCells zv.cells (grownCap w (len+ys.length) cap el-(len+ys.length)))=dR at bE
  generalize Vo:grownCap w (len+ys.length) cap el=gc at bE vr eN
  have iQ:Ext w w.drew:=Ext.drew w
  have Vp:Ext w.drew (w.drew.alloc (.cells dR el)):=Ext.alloc _ _ (fun c t fr h=>by cases h;rfl)
  have GQ:(w.drew.alloc (.cells dR el)).heap[w.drew.heap.size]?=I (.cells dR el (0,0)):=by rw[wH,if_pos rfl]
  have Bt:ez C.K (w.drew.alloc (.cells dR el)) w.drew.heap.size sz (xs.take len++ys) gc:=by
   refine ez.grown (eM:=vs.take (len*sz)) k3 hle rm fW dh hold vr ?_ GQ ?_
   ·rw[←eN]
    have lT:(vs.take (len*sz)).length=len*sz:=by simp;omega
    simp only[Oz,Ml,J7,lT,nD]
    have:(Builtin.zeroCells zv.cells (gc-(len+ys.length))).size=(gc-(len+ys.length))*sz:=by simp[Builtin.zeroCells,iz]
    rw[this,←J1,←J1]
    exact Hh _ (by omega)
   ·intro j v hj
    rw[←eN,Hy (by simpa using(G7.1 hj).1)]
    simpa using hj
  have md:=((m.rj hβ k5).ext iQ).kN w.drew.heap.size (.cell bx 0) (Ha _)
  have m1:=md.ext Vp
  obtain⟨Vn,t5,k5⟩:=k5
  have m2:=m1.ri (b:=bx) (sz:=sz) (bG:=bG+1) (q:=w.drew.heap.size) (cap:=gc) (xs:=xs.take len++ys) hβ rn Bt (.inr ⟨by simp[cQ],.inl (Hz m.size iQ.size),fun k hk=>by have:=(m.lt k _ hk).1;simp at this,rfl,rfl,⟨dR,el,GQ,by simp,fun _ _ _ h=>by simp at h⟩,fun o _=>m.jX _ iQ.size o⟩) ⟨Vn,t5,(iQ.trans Vp).get k5⟩
  rw[Yg]at m2
  refine⟨_,_,fh bE,_,_,aH.gQ,m2,(((e.ext iQ).fresh (Ha _)).ext Vp).tok,.aw _ _ _ r0 _ gc hβ (.inr rfl) (by omega),by simp⟩
theorem jfa (m:ax P C ω w0 C0 hp w)(e:ak C ω w w0.heap.size env tmps){bx sz cap xs cells}{te:TypeId}{vs}(hh:hp[bx]?=I .hole)(Me:aV C (xs.flatMap AVal.flat) vs)(Bu:qx 0 xs=Gp)(db:∀x∈xs,x.flat.length=sz)
  (dh:∀v∈vs,v.oneCell'=Gp) (hc:∀(j:Nat) v,vs[j]?=I v→cells[j]?=I v) (hcap:xs.length≤cap) (cJ:cap*sz≤cells.size):
  zq P C0 w0 C tmps d env ⟨.aw bx 0 xs.length,Gn,Ey,hp.set bx (.vec sz 0 xs)⟩ (.slice (I ⟨w.heap.size,0,Ey⟩) xs.length cap) (w.alloc (.cells cells te)):=by
 obtain⟨m1,e1,Bv⟩:=m.aJ e hh (.cells cells te) (fun c t fr h=>by cases h;rfl) .dead (fun C' ω' w' _ hg=>⟨cells,te,hg⟩)
 have GQ:(w.alloc (.cells cells te)).heap[w.heap.size]?=I (.cells cells te (0,0)):=by rw[wH,if_pos rfl]
 have hβ:(C.box bx w.heap.size).β bx=I w.heap.size:=by simp[aH.box]
 have m2:=m1.ri (b:=bx) (r:=w.heap.size) (sz:=sz) (bG:=0) (q:=w.heap.size) (cap:=cap) (xs:=xs) hβ (fun x hx hr=>by have:=m.iH x hx;omega) ⟨cells,te,vs,GQ,hcap,cJ,db,Me.pure (Vl Bu),hc,dh⟩ (.inl rfl) ⟨cells,te,GQ⟩
 rw[Yg]at m2
 exact⟨_,ω,aH.le_trans Bv aH.gQ,m2,e1.tok,.aw _ _ _ w.heap.size w.heap.size cap hβ (.inr rfl) hcap,by simp⟩
theorem ji7 (m:ax P C ω w0 C0 hp w)(e:ak C ω w w0.heap.size env a.tmps){c}{t u el:TypeId}{ut:TypeDesc}{x y x' y' sz Vq b h0 rk ys vy h'}
  (ho:o.op=.call c) (eg:c.callee=.builtin .append) (eu:c.args.toList=[x,y]) (eS:c.argTypes.toList=[t,u]) (ht:P.underlying t=I (.slice el)) (hu:P.underlying u=I ut) (jO:A6 ut=Gp)
  (hn:js P el=I sz) (hb:oh P el=I b) (h1:qu x=I x') (h2:qu y=I y') (e1:qi env x'=I (.list Gp Vq [])) (e2:qi env y'=I vy) (cW:z7 sz vy=I ys)
  (hlen:ys.length≤1073741824) (bB:ys≠[]) (jN:b≤4096) (Vm:qx 0 ys=Gp) (hzero:∃z,yw P el=I z∧z.length=sz) (dw:aJ h0 hp rk (.vec sz 0 ys)=I h'):
  ∃v w',(execOp a.eval o).run P w=.ok (.value v) w'∧zq P C0 w0 C a.tmps d env ⟨.aw (h0+rk) 0 ys.length,Gn,Ey,h'⟩ v w':=by
 obtain⟨hh,rfl⟩:=y8 dw
 have ha:c.args=#[x,y]:=by apply Hp;simpa using eu
 have lM:c.argTypes=#[t,u]:=by apply Hp;simpa using eS
 obtain⟨i,hi,qV⟩:∃i,P.info? el=I i∧i.bytes=b:=by
  unfold oh at hb
  cases hi:P.info? el with
  |none=>simp[hi]at hb
  |some i=>exact⟨i,rfl,by simpa[hi]using hb⟩
 have kQ:i.size=sz:=by
  unfold js at hn;rw[hi]at hn;simpa using hn
 obtain⟨z,hz,Bp⟩:=hzero
 obtain⟨zv,nC⟩:∃zv,i.zero=I zv:=by
  unfold yw at hz;rw[hi]at hz
  cases hq:i.zero with
  |none=>simp[hq]at hz
  |some v=>exact⟨v,rfl⟩
 have ry:=qw e.cq h2 e2
 obtain⟨news,hs,df,fW,dh⟩:=L9 m hu jO cW ry
 have fh:∀ {z:Value} {w':World},(Builtin.append_ #[t,u] o.type #[a.eval x,a.eval y]).run P w=.ok z w'→(execOp a.eval o).run P w=.ok (.value z) w':=by
  intro z w' h
  simp[execOp,ho,resolve,eg,ha,lM,invoke,builtin,h]
 have nD:news.length=ys.length*sz:=by rw[df.length,yn ys fW]
 have hx:a.eval x=.slice Ey 0 0:=by
  rcases(qw e.cq h1 e1).de with⟨_,_,hx⟩|⟨hf,_⟩|⟨hf,_⟩
  ·exact hx
  ·cases hf
  ·cases hf
 have gR:0<ys.length:=List.length_pos_iff.2 bB
 have cJ:Builtin.nextslicecap (0+ys.length) 0*i.bytes≤281474976710656:=growslice_fits (by omega) (by
  rw[qV]
  exact Hz (J4 (by omega) jN) (by decide:2^30*4096≤_))
 have bE:=run_append_grow_src w t u o.type el i zv ht hi nC Ey 0 0 [] (run_firstCells_none _ _ _ _ _) (a.eval y) ys.length news (kQ▸hs) (by omega) (by omega) cJ
 rw[←hx]at bE
 have vr:=grownCap_ge w (0+ys.length) 0 el
 have iz:zv.cells.size=sz:=by
  obtain⟨_,zv',lN,Gz,_⟩:=vp (C:=C) hz
  have:=lN w
  simp[zeroValue,typeInfo,hi,nC]at this
  subst this
  have:=Gz.length
  simp at this
  omega
 generalize eN:(([]++news).toArray++Builtin.zeroCells zv.cells (grownCap w (0+ys.length) 0 el-(0+ys.length)))=dR at bE
 generalize Vo:grownCap w (0+ys.length) 0 el=gc at bE vr eN
 have iQ:Ext w w.drew:=Ext.drew w
 have:=jfa (d:=d) (tmps:=a.tmps) (m.ext iQ) (e.ext iQ) (te:=el) (cap:=gc) (sz:=sz) (cells:=dR) hh df Vm fW dh (fun j v hj=>by
  rw[←eN,Mt,Hy (by simpa using(G7.1 hj).1)]
  simpa using hj) (by omega) (by
   rw[←eN]
   have h5:(Builtin.zeroCells zv.cells (gc-(0+ys.length))).size=(gc-(0+ys.length))*sz:=by simp[Builtin.zeroCells,iz]
   simp only[Oz,Ml,Mt,nD,h5]
   rw[←J1]
   exact Hh _ (by omega))
 rw[Yh]at bE
 exact⟨_,_,fh bE,this⟩
theorem jmp (m:ax P C ω w0 C0 hp w)(e:ak C ω w w0.heap.size env a.tmps){t el:TypeId}{ps len sz h0 rk z gf qs xs h'}
  (ho:o.op=.buildSlice t len ps) (ht:P.underlying t=I (.slice el)) (hn:js P el=I sz) (hz:yw P el=I z) (hlen:sz*len≤65536) (Vh:0<sz) (iz:z.length=sz)
  (mK:yN ps.toList=I gf) (hq:yi env sz gf=I qs) (hx:lH (G5 len (vo sz z)) qs=I xs) (Bu:qx 0 xs=Gp) (dw:aJ h0 hp rk (.vec sz 0 xs)=I h'):
  ∃v w',(execOp a.eval o).run P w=.ok (.value v) w'∧zq P C0 w0 C a.tmps d env ⟨.aw (h0+rk) 0 xs.length,Gn,Ey,h'⟩ v w':=by
 obtain⟨hh,rfl⟩:=y8 dw
 obtain⟨ds,bE,hdr,h1,nA,kA,cJ⟩:=qmd (C:=C) (ω:=ω) (w:=w) (w0:=w0) e ho ht hn hz hlen Vh iz mK hq hx
 refine⟨_,_,bE,?_⟩
 have fg:=jfa (d:=d) (tmps:=a.tmps) m e (te:=el) (cap:=len) (sz:=sz) (cells:=ds) hh hdr Bu nA h1 (by intro j v h;simpa using h) (by omega) cJ
 rw[kA]at fg ⊢
 exact fg
theorem jc9 (m:ax P C ω w0 C0 hp w)(e:ak C ω w w0.heap.size env a.tmps){t:TypeId}{z}(ho:o.op=.alloc t)(hz:yw P t=I z):
  ∃v w',(execOp a.eval o).run P w=.ok (.value v) w'∧zq P C0 w0 C a.tmps d env ⟨.dc z.length,Gp,Ey,hp⟩ v w':=by
 obtain⟨_,zv,lz,cT,lN⟩:=vp (C:=C) hz
 have hx:Ext w (w.alloc (.cells zv.cells t)):=Ext.alloc w _ (fun c t fr h=>by cases h;rfl)
 have iz:zv.cells.size=z.length:=by have:=cT.length;simpa using this
 refine⟨.pointer (I ⟨w.heap.size,0,Ey⟩),_,by simp[execOp,ho,Instr.alloc,lz,newVar,newRow],C,Abs.cQ ω w.heap.size d,aH.le_refl C,(m.kN _ d (Ha _)).ext hx,(e.fresh (Ha _)).ext hx,.dc _ _,fun _=>?_⟩
 refine⟨by simp[Abs.cQ],.inl m.size,fun b hb=>by have:=(m.lt b _ hb).1;simp at this,rfl,rfl,⟨zv.cells,t,by rw[wH,if_pos rfl],by simp;omega,fun _ _ _ h=>by simp at h⟩,fun o _=>m.jX _ (Ha _) o⟩
theorem jaa (m:ax P C ω w0 C0 hp w)(e:ak C ω w w0.heap.size env a.tmps){t:TypeId}{x y y' n s v}(ho:o.op=.store t x y)(hn:js P t=I n)
  (h1:qu x=I (.tmp s)) (h2:qu y=I y') (hl:jj s env=I (.dc n,Gp)) (e2:qi env y'=I v) (wJ:v.flat.length=n) (hs:v.flat.all qk=Gp):
  ∃w' C' ω',(execOp a.eval o).run P w=.ok .skip w'∧C.le C'∧ax P C' ω' w0 C0 hp w'∧ak C' ω' w' w0.heap.size ((s,.ah v,Gn)::env) a.tmps:=by
 obtain⟨cv,c1,c2,c3⟩:=e s _ hl
 have hO:a.eval x=cv:=by
  cases x with
  |tmp t'=>
   simp only[qu]at h1
   cases h1
   simp[Act.eval,He,c1]
  |const u=>simp only[qu]at h1;split at h1<;>cases h1
  |func f=>simp[qu]at h1
  |global g=>simp[qu]at h1
 cases c2 with
 |dc _ ad=>
  obtain⟨hω,hB,hβ,mJ,wI,⟨cells,te,hg,cJ,_⟩,hK⟩:=c3 rfl
  obtain⟨r,q,sp⟩:=ad
  simp only at hω hB hβ mJ wI hg cJ hK
  subst mJ
  subst wI
  have ry:=qw e.cq h2 e2
  have hc:=Bi ry hs
  have dh:=Bk hc (fun y hy=>St.1 hs y hy)
  have dT:(a.eval y).cells.toList.length=n:=by rw[hc.length,wJ]
  have bE:=Vf (P:=P) (t:=t) (off:=0) hn dT hg (by omega) dh
  obtain⟨m',e',hle⟩:=qx9 (d:=.slot s) m e (r:=r) (q:=0) (news:=(a.eval y).cells.toList) hω hB hβ hg (by omega) (fun o _=>hK o (by simp)) dh
  refine⟨_,_,_,?_,hle,m',?_⟩
  ·simp only[execOp,ho,Instr.storeAt,Sem.run_bind,hO,Instr.sureAddr,Sem.run_pure,Result.andThen_ok,bE]
  ·intro t' z hz
   by_cases lQ:t'=s
   ·subst lQ
    simp only[jj,V3,cond_true,I.injEq]at hz
    subst hz
    exact⟨_,c1,.ah _ _ _ (aH.fB (fun o _=>hK o (by simp)) hc),by simp⟩
   ·have hb:Hm s t'=Gn:=by
     cases hb:Hm s t' with
     |false=>rfl
     |true=>exact absurd (Gs hb).symm lQ
    simp only[jj,hb,cond_false]at hz
    refine e' t' z ?_
    simp only[yf,hl,jj,hb,cond_false]
    exact hz
end
section
variable {P:Program}{C C0:aH}{ω:Nat→Option Loc}{w w' w0:World}{hp:qh}{env:Env}{a:Act}{o:Oper}{tmps:Array Value}{d:Loc}
def kj (w:World)(r:Nat)(x:Obj):World:={ w with heap:=w.heap.setIfInBounds r x }
theorem GR {r x}(h:r<w.heap.size):(kj w r x).heap[r]?=I x:=by
 show(w.heap.setIfInBounds r x)[r]?=_
 rw[Array.getElem?_setIfInBounds_self_of_lt h]
theorem EH {r x}(h:r<w.heap.size)(hx:∀c t fr,x=.cells c t fr→fr=(0,0)):nE w (kj w r x) r where
 size:=by simp[kj]
 other k hk:=by
  show(w.heap.setIfInBounds r x)[k]?=_
  rw[Array.getElem?_setIfInBounds_ne (N9 hk)]
 fz c t fr hc:=by
  rw[GR h]at hc
  exact hx c t fr (I.inj hc)
 os:=rfl
 output:=rfl
theorem yX {r x y}(h:w.heap[r]?=I y)(hy:∀c t f,y≠.cells c t f):(setObj r x).run P w=.ok () (kj w r x):=by
 cases y with
 |cells c t f=>exact absurd rfl (hy c t f)
 |_=>simp[setObj,Sem.run,kj,h]
theorem pK {r y}(h:w.heap[r]?=I y)(hy:∀c t f,y≠.cells c t f):(getObj r).run P w=.ok y w:=by
 cases y with
 |cells c t f=>exact absurd rfl (hy c t f)
 |_=>simp[getObj,Sem.run,h]
theorem jfh (m:ax P C ω w0 C0 hp w)(e:ak C ω w w0.heap.size env a.tmps){x x' b pos s}(ho:o.op=.next x Gp)(h1:qu x=I x')(e1:qi env x'=I (.ptr b 0))(gP:hp[b]?=I (.iter s pos)):
  (pos<s.length→∀h',jt hp b (.iter s (pos+(ql s pos).2))=I h'→∃v w',(execOp a.eval o).run P w=.ok (.value v) w'∧zq P C0 w0 C a.tmps d env ⟨.aB [.bool Gp,.int .i64 pos,.int .i32 (ql s pos).1],Gn,Ey,h'⟩ v w') ∧
  (¬pos<s.length→∃v w',(execOp a.eval o).run P w=.ok (.value v) w'∧zq P C0 w0 C a.tmps d env ⟨.aB [.bool Gn],Gn,Ey,hp⟩ v w'):=by
 obtain⟨r,hr,hq⟩:=(qw e.cq h1 e1).dy
 have gO:w.heap[r]?=I (.stringIter ⟨⟨s⟩⟩ pos):=m.box b _ r gP hr
 have br:=(m.lt b r hr).1
 have db:(⟨⟨s⟩⟩:ByteArray).size=s.length:=rfl
 constructor
 ·intro gR h' bw
  obtain rfl:=Bq bw
  have hu:=EH (w:=w) (r:=r) (x:=.stringIter ⟨⟨s⟩⟩ (pos+(ql s pos).2)) br (by simp)
  refine⟨.tuple #[.bool Gp,goInt pos,.int .i32 (ql s pos).1],kj w r (.stringIter ⟨⟨s⟩⟩ (pos+(ql s pos).2)),?_,C,ω,aH.le_refl C,m.dX hu hr _ (fun _ _ _ _ _ h=>h) (GR br),e.dM hu hr,?_,by simp⟩
  ·have eE:pos<(⟨⟨s⟩⟩:ByteArray).size:=gR
   have bw:=yX (P:=P) (x:=.stringIter ⟨⟨s⟩⟩ (pos+(ql s pos).2)) gO (by simp)
   simp only[execOp,ho,hq,Instr.next,Sem.run_bind,pK gO (by simp),Result.andThen_ok,eE,if_true]
   unfold ql at bw ⊢
   simp only[Sem.run_bind,bw,Result.andThen_ok,Sem.run_pure]
  ·refine .aB _ _ (.cons _ _ _ _ (.bool _) (.cons _ _ _ _ ?_ (.cons _ _ _ _ (.int _ _) .nil)))
   exact .int _ _
 ·intro gR
  have eE:¬pos<(⟨⟨s⟩⟩:ByteArray).size:=gR
  refine⟨.tuple #[.bool Gn],w,?_,q4y m e (.aB _ _ (.cons _ _ _ _ (.bool _) .nil))⟩
  simp only[execOp,ho,hq,Instr.next,Sem.run_bind,pK gO (by simp),Result.andThen_ok,eE,if_false,Sem.run_pure]
theorem Vr {t:TypeId}{kd}(h:kM P t=I kd):(kd=.int∧∃k,P.underlying t=I (.int k))∨(kd=.str∧P.underlying t=I .string)∨(kd=.bool∧P.underlying t=I .bool):=by
 unfold kM at h
 split at h<;>first|cases h|skip
 ·exact .inl ⟨rfl,_,‹_›⟩
 ·exact .inr (.inl ⟨rfl,‹_›⟩)
 ·exact .inr (.inr ⟨rfl,‹_›⟩)
theorem qwr {t:TypeId}{td:TypeDesc}{kd x y u v b}(ht:P.underlying t=I td)(hk:kM P t=I kd)(hx:bN C x u)(hy:bN C y v)(h:ni kd x y=I b):Instr.sameNow td u v=I b∧(b=Gp→x=y∧u=v∧Instr.sameBits 10000 v u=Gp):=by
 rcases Vr hk with⟨rfl,k,hu⟩|⟨rfl,hu⟩|⟨rfl,hu⟩<;>rw[hu]at ht<;>cases ht
 ·cases x<;>cases y<;>simp only[ni]at h<;>first|cases h|skip
  rename_i k1 n1 k2 n2
  have e1:=hx.bO
  have e2:=hy.bO
  subst e1;subst e2
  by_cases iB:k1=k2
  ·subst iB
   simp only[decide_true,cond_true,I.injEq]at h
   refine⟨by simp[Instr.sameNow,h],fun hb=>?_⟩
   subst hb
   have:n1=n2:=by simpa using h
   subst this
   exact⟨rfl,rfl,by simp[Instr.sameBits]⟩
  ·simp[iB]at h
 ·cases x<;>cases y<;>simp only[ni]at h<;>first|cases h|skip
  rename_i s1 s2
  have e1:=hx.cy
  have e2:=hy.cy
  subst e1;subst e2
  have GU:((⟨⟨s1⟩⟩:ByteArray) == ⟨⟨s2⟩⟩)=(s1 == s2):=by
   show(Array.mk s1 == Array.mk s2)=_
   simp
  refine⟨by simp only[Instr.sameNow,GU],fun hb=>?_⟩
  have yY:s1=s2:=by simpa using hb
  subst yY
  refine⟨rfl,rfl,?_⟩
  simp only[Instr.sameBits,GU]
  simp
 ·cases x<;>cases y<;>simp only[ni]at h<;>first|cases h|skip
  rename_i b1 b2
  have e1:=hx.dx
  have e2:=hy.dx
  subst e1;subst e2
  refine⟨by simp[Instr.sameNow],fun hb=>?_⟩
  have yY:b1=b2:=by simpa using hb
  subst yY
  exact⟨rfl,rfl,by simp[Instr.sameBits]⟩
theorem GV {t:TypeId}{td:TypeDesc}{kd k u}(ht:P.underlying t=I td)(hk:kM P t=I kd)(hx:bN C k u):∀ {es:List (AVal×AVal)} {ms:List MapEntry} {i:Nat} {r:Option (Nat×AVal)},cL C es ms→jq kd k es i=I r →
  match r with
  |none=>Instr.findNow td u ms i=I Ey
  |some (j,v)=>∃m,i≤j∧es[j-i]?=I (k,v)∧ms[j-i]?=I m∧m.key=u∧bN C v m.val∧Instr.findNow td u ms i=I (I (j,m.val))∧Instr.sameBits 10000 m.key u=Gp
 |_,_,i,r,.nil,h=>by
  simp only[jq,I.injEq]at h
  subst h
  simp[Instr.findNow]
 |_,_,i,r,.cons k' v' es m ms h1 h2 h3,h=>by
  simp only[jq]at h
  split at h
  ·rename_i he
   cases h
   obtain⟨q1,q2⟩:=qwr ht hk hx h1 he
   obtain⟨rfl,rfl,q3⟩:=q2 rfl
   exact⟨m,Ha _,by simp,by simp,rfl,h2,by simp[Instr.findNow,q1],q3⟩
  ·rename_i he
   obtain⟨q1,_⟩:=qwr ht hk hx h1 he
   have ih:=GV ht hk hx h3 h
   cases r with
   |none=>simp only[Instr.findNow,q1];exact ih
   |some jv=>
    obtain⟨j,v⟩:=jv
    obtain⟨m2,k1,k2,k3,k4,k5,k6,k7⟩:=ih
    refine⟨m2,by omega,?_,?_,k4,k5,by simp only[Instr.findNow,q1];exact k6,k7⟩
    ·rw[show j-i=(j-(i+1))+1 from by omega];simpa using k2
    ·rw[show j-i=(j-(i+1))+1 from by omega];simpa using k3
  ·cases h
theorem EI {t:TypeId}{kd}(hk:kM P t=I kd)(e:Bool)(v:Value):(Instr.checkKey e 10000 t v).run P w=.ok () w:=by
 rcases Vr hk with⟨_,k,hu⟩|⟨_,hu⟩|⟨_,hu⟩<;>(unfold Instr.checkKey;simp[run_underlying hu])
theorem GX {t:TypeId}{td:TypeDesc}{u ms r}(ht:P.underlying t=I td)(h:Instr.findNow td u ms 0=I r):(Instr.findKey t u ms).run P w=.ok r w:=by
 simp[Instr.findKey,run_underlying ht,h]
theorem Vs {t:TypeId}{kd}(hk:kM P t=I kd):∃td,P.underlying t=I td:=by
 rcases Vr hk with⟨_,k,hu⟩|⟨_,hu⟩|⟨_,hu⟩<;>exact⟨_,hu⟩
theorem Vt (m:ax P C ω w0 C0 hp w)(e:ak C ω w w0.heap.size env a.tmps){t kt el:TypeId}{x y ok x' y' kd zv mv kv r}(ho:o.op=.lookup t x y ok)(ht:P.underlying t=I (.map kt el))(iK:kM P kt=I kd)(hz:UH P el=I zv)
  (h1:qu x=I x') (h2:qu y=I y') (e1:qi env x'=I mv) (e2:qi env y'=I kv)
  (hv:(mv=.bY∧r=Ey)∨∃b es,mv=.map b∧hp[b]?=I (.map es)∧jq kd kv es 0=I r):
  Val P C a o w (match r with
   |some (_,v)=>bif ok then .aB [v,.bool Gp]else v
   |none=>bif ok then .aB [zv,.bool Gn]else zv):=by
 have iA:=qw e.cq h2 e2
 have vu:=qw e.cq h1 e1
 obtain⟨td,rA⟩:=Vs iK
 obtain⟨GY,lz,nC⟩:∃v,(∀w,(zeroValue el).run P w=.ok v w)∧bN C zv v:=by
  unfold UH at hz
  split at hz
  ·rename_i i hi
   split at hz
   ·rename_i v hv
    exact⟨v,fun w=>by simp[zeroValue,typeInfo,hi,hv],qs8 C hz⟩
   ·cases hz
  ·cases hz
 have fin:∀ {ms:List MapEntry} {rv:Option (Nat×Value)},(a.eval x=.map Ey∧ms=[]∨∃q clock,a.eval x=.map (I q)∧w.heap[q]?=I (.map ⟨ms⟩ clock))→Instr.findNow td (a.eval y) ms 0=I rv →
   (execOp a.eval o).run P w=.ok (.value (if ok then .tuple #[(match rv with|some (_,v)=>v|none=>GY),.bool rv.isSome]else(match rv with|some (_,v)=>v|none=>GY))) w:=by
  intro ms rv hm hf
  have vw:=GX (w:=w) rA hf
  rcases hm with⟨hm,rfl⟩|⟨q,clock,hm,hq⟩
  ·cases rv<;>simp[execOp,ho,Instr.lookup,run_underlying ht,hm,EI iK,vw,lz]
  ·cases rv<;>simp[execOp,ho,Instr.lookup,run_underlying ht,hm,pK hq (by simp),EI iK,vw,lz]
 rcases hv with⟨rfl,rfl⟩|⟨b,es,rfl,hb,hfe⟩
 ·generalize mL:a.eval x=mx at vu
  cases vu
  refine⟨_,fin (ms:=[]) (rv:=none) (.inl ⟨mL,rfl⟩) (by simp[Instr.findNow]),?_⟩
  cases ok with
  |true=>exact .aB _ _ (.cons _ _ _ _ nC (.cons _ _ _ _ (.bool _) .nil))
  |false=>exact nC
 ·generalize mL:a.eval x=mx at vu
  cases vu with
  |map _ q oX=>
   obtain⟨cf,clock,g1,g2⟩:=m.box b _ q hb oX
   have hf:=GV rA iK iA g2 hfe
   cases r with
   |none=>
    refine⟨_,fin (ms:=cf.toList) (rv:=none) (.inr ⟨q,clock,mL,g1⟩) hf,?_⟩
    cases ok with
    |true=>exact .aB _ _ (.cons _ _ _ _ nC (.cons _ _ _ _ (.bool _) .nil))
    |false=>exact nC
   |some jv=>
    obtain⟨j,v⟩:=jv
    obtain⟨me,_,_,_,_,hrv,hfn,_⟩:=hf
    refine⟨_,fin (ms:=cf.toList) (rv:=I (j,me.val)) (.inr ⟨q,clock,mL,g1⟩) hfn,?_⟩
    cases ok with
    |true=>exact .aB _ _ (.cons _ _ _ _ hrv (.cons _ _ _ _ (.bool _) .nil))
    |false=>exact hrv
theorem cL.iO {k v:AVal}:∀ {es:List (AVal×AVal)} {ms:List MapEntry} {j:Nat} {m:MapEntry},cL C es ms→bN C v m.val→(∀k',(es[j]?).map (·.1)=I k'→bN C k' m.key)→cL C (pH es j v) (ms.set j m)
 |_,_,j,m,.nil,_,_=>by simp[pH];exact .nil
 |_,_,0,m,.cons k' v' es m' ms h1 h2 h3,hv,hk=>by
  simp only[pH,List.set_cons_zero]
  exact .cons _ _ _ _ _ (hk k' (by simp)) hv h3
 |_,_,j+1,m,.cons k' v' es m' ms h1 h2 h3,hv,hk=>by
  simp only[pH,List.set_cons_succ]
  exact .cons _ _ _ _ _ h1 h2 (cL.iO (k:=k) h3 hv (fun k' h=>hk k' (by simpa using h)))
theorem cL.push {k v m es ms}(h:cL C es ms)(hk:bN C k m.key)(hv:bN C v m.val):cL C (es++[(k,v)]) (ms++[m]):=by
 induction h with
 |nil=>exact .cons _ _ _ _ _ hk hv .nil
 |cons k' v' es m' ms h1 h2 _ ih=>exact .cons _ _ _ _ _ h1 h2 ih
theorem qox (m:ax P C ω w0 C0 hp w)(e:ak C ω w w0.heap.size env a.tmps){t kt el:TypeId}{x y z x' y' z' kd kv v b es h'}(ho:o.op=.mapUpdate t x y z∨o.op=.insert t x y z)(ht:P.underlying t=I (.map kt el))(iK:kM P kt=I kd)
  (h1:qu x=I x') (h2:qu y=I y') (h3:qu z=I z') (e1:qi env x'=I (.map b)) (e2:qi env y'=I kv) (e3:qi env z'=I v) (hb:hp[b]?=I (.map es))
  (hv:(∃i u,jq kd kv es 0=I (I (i,u))∧jt hp b (.map (pH es i v))=I h')∨(jq kd kv es 0=I Ey∧jt hp b (.map (es++[(kv,v)]))=I h')):
  ∃w',(execOp a.eval o).run P w=.ok .skip w'∧zq P C0 w0 C a.tmps d env ⟨.undef,Gn,Ey,h'⟩ undef w':=by
 have iA:=qw e.cq h2 e2
 have hvr:=qw e.cq h3 e3
 have vu:=qw e.cq h1 e1
 obtain⟨td,rA⟩:=Vs iK
 generalize mL:a.eval x=mx at vu
 cases vu with
 |map _ q oX=>
  obtain⟨cf,clock,g1,g2⟩:=m.box b _ q hb oX
  have br:=(m.lt b q oX).1
  have done:∀(Bw:List (AVal×AVal)) (rC:Array MapEntry) (kX:Nat),cL C Bw rC.toList→jt hp b (.map Bw)=I h' →
    (execOp a.eval o).run P w=.ok .skip (kj w q (.map rC kX))→∃w',(execOp a.eval o).run P w=.ok .skip w'∧zq P C0 w0 C a.tmps d env ⟨.undef,Gn,Ey,h'⟩ undef w':=by
   intro Bw rC kX wN bw bE
   obtain rfl:=Bq bw
   have hu:=EH (w:=w) (r:=q) (x:=.map rC kX) br (by simp)
   exact⟨_,bE,C,ω,aH.le_refl C,m.dX hu oX _ (fun _ _ _ _ _ h=>h) ⟨rC,kX,GR br,wN⟩,e.dM hu oX,.undef,by simp⟩
  rcases hv with⟨i,u,hf,bw⟩|⟨hf,bw⟩
  ·obtain⟨me,_,k1,k2,k3,k4,k5,k6⟩:=GV rA iK iA g2 hf
   have vw:=GX (w:=w) rA k5
   simp only[Nat.sub_zero]at k1 k2
   have Vu:cf[i]?=I me:=by simpa using k2
   have hlen:i<cf.size:=(Hl.1 Vu).1
   refine done (pH es i v) (cf.modify i fun e=>{ e with key:=a.eval y,val:=a.eval z }) clock ?_ bw ?_
   ·have:(cf.modify i fun e=>{ e with key:=a.eval y,val:=a.eval z }).toList=cf.toList.set i { me with key:=a.eval y,val:=a.eval z }:=by
     apply Mx
     intro j
     rw[Hb,Array.getElem?_modify,Y0]
     by_cases lL:i=j
     ·subst lL
      have hgi:=(Hl.1 Vu).2
      simp[hlen,hgi]
     ·simp[lL]
    rw[this]
    refine cL.iO (k:=kv) g2 hvr (fun k' eV=>?_)
    rw[k1]at eV
    cases eV
    exact iA
   ·have gu:=yX (P:=P) (x:=.map (cf.modify i fun e=>{ e with key:=a.eval y,val:=a.eval z }) clock) g1 (by simp)
    have GZ:∀w:World,(Instr.keyThatStays (((cf[i]?).map (·.key)).getD (a.eval y)) (a.eval y)).run P w=.ok (a.eval y) w:=by
     intro w
     simp[Instr.keyThatStays,Vu,k6]
    rcases ho with ho|ho<;>simp only[execOp,ho,Instr.mapUpdate,Sem.run_bind,run_underlying ht,Result.andThen_ok,mL,pK g1 (by simp),EI iK,vw,GZ,gu,Sem.run_pure]
  ·have UT:=GV rA iK iA g2 hf
   have vw:=GX (w:=w) rA UT
   refine done (es++[(kv,v)]) (cf.push { key:=a.eval y,val:=a.eval z,born:=clock }) (clock+1) ?_ bw ?_
   ·rw[Array.toList_push]
    exact g2.push iA hvr
   ·have gu:=yX (P:=P) (x:=.map (cf.push { key:=a.eval y,val:=a.eval z,born:=clock }) (clock+1)) g1 (by simp)
    rcases ho with ho|ho<;>simp only[execOp,ho,Instr.mapUpdate,Sem.run_bind,run_underlying ht,Result.andThen_ok,mL,pK g1 (by simp),EI iK,vw,gu,Sem.run_pure]
end
section
variable {P:Program}{C C0:aH}{ω:Nat→Option Loc}{w w' w0:World}{hp:qh}{env:Env}{a:Act}{o:Oper}{tmps:Array Value}{d:Loc}
theorem q1m {n sz len cap:Nat}{base:Option Addr}{cs:List Value}(hl:cs.length=n*sz)(h:∀ad,base=I ad→∀j v,cs[j]?=I v→w.cell? (ad.add j)=I v)(hn:base=Ey→n=0):
  (Builtin.firstCells sz n (.slice base len cap)).run P w=.ok cs.toArray w:=by
 cases base with
 |none=>
  have:cs=[]:=by
   have:=hn rfl
   subst this
   exact List.length_eq_zero_iff.1 (by simpa using hl)
  subst this
  exact run_firstCells_none _ _ _ _ _
 |some ad=>exact run_firstCells_some w _ _ _ _ _ cs hl (h ad rfl)
theorem jm9 (m:ax P C ω w0 C0 hp w)(e:ak C ω w w0.heap.size env a.tmps){c:Call}{t:TypeId}{ts:List TypeId}{el:TypeId}{x y x' y' sz b q len n vy us cs eK h'}
  (ho:o.op=.call c) (eg:c.callee=.builtin .copy) (eu:c.args.toList=[x,y]) (eS:c.argTypes.toList=t::ts) (ht:P.underlying t=I (.slice el)) (hn:js P el=I sz)
  (h1:qu x=I x') (h2:qu y=I y') (e1:qi env x'=I (.ms b q len)) (e2:qi env y'=I vy) (lA:jy hp b=I cs) (cW:A4 sz len vy=I (n,us)) (ct:jw cs q us=I eK) (Gq:us.length=n*sz) (bw:jt hp b (.cells eK)=I h'):
  ∃u w',(execOp a.eval o).run P w=.ok (.value u) w'∧zq P C0 w0 C a.tmps d env ⟨.int .i64 n,Gn,Ey,h'⟩ u w':=by
 obtain⟨r,cap,hr,hle,hq⟩:=(qw e.cq h1 e1).fe
 have ry:=qw e.cq h2 e2
 unfold jw at ct
 cases hb:(Xo (q+us.length) cs.length&&us.all qk)with
 |false=>simp[hb]at ct
 |true=>
  simp only[hb,cond_true,I.injEq]at ct
  simp only[Hj]at hb
  subst ct
  -- the source
  obtain⟨news,base,sl,sc,hy,df,hcells,Vv,qX⟩:∃news base sl sc,a.eval y=.slice base sl sc∧aV C us news∧(∀ad,base=I ad→∀j v,news[j]?=I v→w.cell? (ad.add j)=I v)∧Nat.min sl len=n∧(base=Ey→n=0):=by
   unfold A4 at cW
   split at cW
   ·rename_i nn sy ys
    cases hk:(Hm sz sy||ys.isEmpty)with
    |false=>simp[hk]at cW
    |true=>
     simp only[hk,cond_true,I.injEq,Prod.mk.injEq]at cW
     obtain⟨rfl,rfl⟩:=cW
     generalize a.eval y=vv at ry
     cases ry with
     |jL=>exact⟨[],Ey,0,0,rfl,by simpa using aC.nil,by simp,by simp[Nat.min_def],by simp⟩
     |jM _ ad _=>exact⟨[],I ad,0,0,rfl,by simpa using aC.nil,by simp,by simp,by simp⟩
     |list _ _ r' o' kW hl du=>
      have hc:cB C r' ((ys.take len).flatMap AVal.flat) o':=bu.cells (bu.take len du)
      obtain⟨vs,k1,k2⟩:=hc.vals
      refine⟨vs,I ⟨r',o',Ey⟩,ys.length,kW,rfl,k1,?_,rfl,by simp⟩
      intro ad had j v hj
      cases had
      rw[add_lit]
      exact m.know _ _ _ (k2 j v hj)
   ·cases cW
  have dh:=Bk df (by simpa using hb.2)
  obtain⟨vs,te,hg,cJ,m',e'⟩:=q45 m e (wK lA) hr df dh (J2 hb.1)
  obtain rfl:=Bq bw
  have hfc:=q1m (P:=P) (w:=w) (n:=n) (sz:=sz) (len:=sl) (cap:=sc) (base:=base) (cs:=news) (by rw[df.length,Gq]) hcells qX
  have G0:=run_storeCells_at (P:=P) r q te news 0 vs w hg (by simpa using cJ) dh
  simp only[X6]at G0
  have bE:(Builtin.copy_ c.argTypes o.type (c.args.map a.eval)).run P w=.ok (goInt n) (w.setRow r (vs.toList.take q++news++vs.toList.drop (q+news.length)).toArray):=by
   have ha:c.args.map a.eval=#[a.eval x,a.eval y]:=by
    apply Hp;simp[eu]
   have hat:c.argTypes[0]?=I t:=by rw[←Hb,eS];rfl
   rw[ha]
   simp only[Builtin.copy_,hat,Hd,J8,J9,Sem.run_bind,run_underlying ht,Result.andThen_ok,hq,hy,Builtin.lenOf,Sem.run_pure,Vv,yo hn,hfc,G0]
  refine⟨goInt n,_,?_,C,ω,aH.le_refl C,m',e',?_,by simp⟩
  ·have ha:Array.map a.eval c.args=#[a.eval x,a.eval y]:=by
    apply Hp;simp[eu]
   rw[ha]at bE
   simp[execOp,ho,resolve,eg,ha,invoke,builtin,bE]
  ·exact .int _ _
theorem cL.erase:∀ {es:List (AVal×AVal)} {ms:List MapEntry} (j:Nat),cL C es ms→cL C (es.eraseIdx j) (ms.eraseIdx j)
 |_,_,j,.nil=>by simpa using cL.nil
 |_,_,0,.cons k' v' es m' ms h1 h2 h3=>by simpa using h3
 |_,_,j+1,.cons k' v' es m' ms h1 h2 h3=>by simpa using .cons _ _ _ _ _ h1 h2 (cL.erase j h3)
theorem jbl (m:ax P C ω w0 C0 hp w)(e:ak C ω w w0.heap.size env a.tmps){c}{t kt el:TypeId}{ts x y x' y' kd kv b es h' r}
  (ho:o.op=.call c) (eg:c.callee=.builtin .delete) (eu:c.args.toList=[x,y]) (eS:c.argTypes.toList=t::ts) (ht:P.underlying t=I (.map kt el)) (iK:kM P kt=I kd)
  (h1:qu x=I x') (h2:qu y=I y') (e1:qi env x'=I (.map b)) (e2:qi env y'=I kv) (hb:hp[b]?=I (.map es))
  (hf:jq kd kv es 0=I r) (bw:jt hp b (.map (q6g es r))=I h'):
  ∃u w',(execOp a.eval o).run P w=.ok (.value u) w'∧zq P C0 w0 C a.tmps d env ⟨.aB [],Gn,Ey,h'⟩ u w':=by
 have iA:=qw e.cq h2 e2
 have vu:=qw e.cq h1 e1
 obtain⟨td,rA⟩:=Vs iK
 have ha:Array.map a.eval c.args=#[a.eval x,a.eval y]:=by
  apply Hp;simp[eu]
 have hat:c.argTypes[0]?=I t:=by rw[←Hb,eS];rfl
 generalize mL:a.eval x=mx at vu
 cases vu with
 |map _ q oX=>
  obtain⟨cf,clock,g1,g2⟩:=m.box b _ q hb oX
  have br:=(m.lt b q oX).1
  have done:∀(Bw:List (AVal×AVal)) (rC:Array MapEntry),cL C Bw rC.toList→jt hp b (.map Bw)=I h' →
    (Builtin.delete_ c.argTypes o.type #[.map (I q),a.eval y]).run P w=.ok (.tuple #[]) (kj w q (.map rC clock))→∃u w',(execOp a.eval o).run P w=.ok (.value u) w'∧zq P C0 w0 C a.tmps d env ⟨.aB [],Gn,Ey,h'⟩ u w':=by
   intro Bw rC wN bw bE
   obtain rfl:=Bq bw
   have hu:=EH (w:=w) (r:=q) (x:=.map rC clock) br (by simp)
   refine⟨.tuple #[],_,?_,C,ω,aH.le_refl C,m.dX hu oX _ (fun _ _ _ _ _ h=>h) ⟨rC,clock,GR br,wN⟩,e.dM hu oX,.aB _ _ .nil,by simp⟩
   simp[execOp,ho,resolve,eg,ha,mL,invoke,builtin,bE]
  have hfn:=GV rA iK iA g2 hf
  cases r with
  |none=>
   have vw:=GX (w:=w) rA hfn
   refine done es cf g2 bw ?_
   have gu:=yX (P:=P) (x:=.map cf clock) g1 (by simp)
   simp only[Builtin.delete_,hat,Hd,J8,J9,Sem.run_bind,run_underlying ht,Result.andThen_ok,pK g1 (by simp),EI iK,vw,gu,Sem.run_pure]
  |some jv=>
   obtain⟨j,v⟩:=jv
   obtain⟨me,_,k1,k2,k3,k4,k5,k6⟩:=hfn
   have vw:=GX (w:=w) rA k5
   refine done (es.eraseIdx j) (cf.eraseIdxIfInBounds j) ?_ bw ?_
   ·have:(cf.eraseIdxIfInBounds j).toList=cf.toList.eraseIdx j:=by simp
    rw[this];exact cL.erase j g2
   ·have gu:=yX (P:=P) (x:=.map (cf.eraseIdxIfInBounds j) clock) g1 (by simp)
    simp only[Builtin.delete_,hat,Hd,J8,J9,Sem.run_bind,run_underlying ht,Result.andThen_ok,pK g1 (by simp),EI iK,vw,gu,Sem.run_pure]
end
section
variable {P:Program}{p:zb}{xc:XC}{C C0:aH}{ω:Nat→Option Loc}{w w0:World}{hp:qh}{env:Env}{a:Act}{o:Oper}{d:Loc}{h:qj}{md:ew}{r h0:Nat}{dst:Option Nat}{al:Option (List Nat)}{cP:cU}{res:bj}
def yj (P:Program)(C C0:aH)(w0:World)(a:Act)(d:Loc)(env:Env)(o:Oper)(w:World)(res:bj):Prop:=
 (∃v w',(execOp a.eval o).run P w=.ok (.value v) w'∧zq P C0 w0 C a.tmps d env res v w') ∨
 (∃w',(execOp a.eval o).run P w=.ok .skip w'∧zq P C0 w0 C a.tmps d env res undef w') ∨
 (∃f args,(execOp a.eval o).run P w=.ok (.enter f args) w∧CallsIn Fence.wide 0 P f args w fun e w'=>∃v,e=.returned v∧zq P C0 w0 C a.tmps d env res v w') ∨
 (∃l f tmps assign body,(execOp a.eval o).run P w=.ok (.round l f tmps assign body) w∧RoundIn Fence.wide 0 P l f tmps assign body w fun e w'=>∃v,e=.returned v∧zq P C0 w0 C a.tmps d env res v w')
theorem ji (m:ax P C ω w0 C0 hp w)(e:ak C ω w w0.heap.size env a.tmps){x}(hv:Val P C a o w x):yj P C C0 w0 a d env o w ⟨x,Gn,Ey,hp⟩:=by
 obtain⟨v,h1,h2⟩:=hv
 exact .inl ⟨v,w,h1,q4y m e h2⟩
theorem qy {x}(hs:val hp x=I res):res=⟨x,Gn,Ey,hp⟩:=by simpa[val]using hs.symm
theorem vz {x}(hs:gK hp x=I res):∃v,x=I v∧res=⟨v,Gn,Ey,hp⟩:=by
 cases x with
 |none=>simp[gK]at hs
 |some v=>exact⟨v,rfl,by simpa[gK]using hs.symm⟩
theorem Mf (m:ax P C ω w0 C0 hp w)(e:ak C ω w w0.heap.size env a.tmps){x}(ho:o.op=.move x∨o.op=.assign x){y}(hc:qu x=I y)(hs:qo env hp (.move y)=I res):yj P C C0 w0 a d env o w res:=by
 simp only[qo]at hs
 obtain⟨v,hv,rfl⟩:=vz hs
 exact ji m e (jmg e.cq ho hc hv)
theorem q3e (m:ax P C ω w0 C0 hp w)(e:ak C ω w w0.heap.size env a.tmps){s}(ho:o.op=.move (.tmp s)∨o.op=.assign (.tmp s))(hs:qo env hp (.take s)=I res):yj P C C0 w0 a d env o w res:=by
 simp only[qo]at hs
 split at hs
 ·rename_i v ow hl
  cases hs
  exact .inl (jll m e ho hl)
 ·cases hs
theorem jia (m:ax P C ω w0 C0 hp w)(e:ak C ω w w0.heap.size env a.tmps){x}(ho:o.op=.move x)(hc:cV P h md r dst (.move x)=I cP)(hs:qf p xc h0 al env hp cP=I res):yj P C C0 w0 a d env o w res:=by
 simp only[cV]at hc
 split at hc
 ·rename_i s ht
  cases hc
  unfold q9r at ht
  split at ht
  ·split at ht
   ·cases ht;exact q3e m e (.inl ho) hs
   ·cases ht
  ·cases ht
 ·obtain⟨y,hy,rfl⟩:=En.1 hc
  exact Mf m e (.inl ho) hy hs
theorem jbt (m:ax P C ω w0 C0 hp w)(e:ak C ω w w0.heap.size env a.tmps){x}(ho:o.op=.assign x)(hc:cV P h md r dst (.assign x)=I cP)(hs:qf p xc h0 al env hp cP=I res):yj P C C0 w0 a d env o w res:=by
 cases x with
 |tmp s=>simp only[cV]at hc;cases hc;exact q3e m e (.inr ho) hs
 |const v=>simp only[cV]at hc;obtain⟨y,hy,rfl⟩:=En.1 hc;exact Mf m e (.inr ho) hy hs
 |func v=>simp only[cV]at hc;obtain⟨y,hy,rfl⟩:=En.1 hc;exact Mf m e (.inr ho) hy hs
 |global v=>simp only[cV]at hc;obtain⟨y,hy,rfl⟩:=En.1 hc;exact Mf m e (.inr ho) hy hs
theorem jit (m:ax P C ω w0 C0 hp w)(e:ak C ω w w0.heap.size env a.tmps){c x y}(ho:o.op=.pick c x y)(hc:cV P h md r dst (.pick c x y)=I cP)(hs:qf p xc h0 al env hp cP=I res):yj P C C0 w0 a d env o w res:=by
 simp only[cV]at hc
 split at hc
 ·rename_i c' x' y' h1 h2 h3
  cases hc
  simp only[qf,qo]at hs
  split at hs
  ·rename_i b e1
   split at hs
   ·rename_i u v e2 e3
    obtain rfl:=qy hs
    exact ji m e (jki e.cq ho h1 h2 h3 e1 e2 e3)
   ·cases hs
  ·cases hs
 ·cases hc
theorem q32 (m:ax P C ω w0 C0 hp w)(e:ak C ω w w0.heap.size env a.tmps){x}(ho:o.op=.nilCheck x)(hc:cV P h md r dst (.nilCheck x)=I cP)(hs:qf p xc h0 al env hp cP=I res):yj P C C0 w0 a d env o w res:=by
 simp only[cV]at hc
 obtain⟨y,hy,rfl⟩:=En.1 hc
 simp only[qf,qo]at hs
 split at hs
 ·rename_i b q hv;obtain rfl:=qy hs;exact ji m e (qpn e.cq ho hy hv (.inl ⟨_,_,rfl⟩))
 ·rename_i z hv;obtain rfl:=qy hs;exact ji m e (qpn e.cq ho hy hv (.inr ⟨_,rfl⟩))
 ·rename_i f u v hv
  obtain rfl:=qy hs
  have hr:=qw e.cq hy hv
  refine ji m e ⟨a.eval x,?_,hr⟩
  generalize hx:a.eval x=ev at hr
  cases hr with
  |fn f f' u v as bs hf ha hb=>
   simp only[fM]at hf
   subst hf
   simp[execOp,ho,hx]
 ·cases hs
theorem jwm (m:ax P C ω w0 C0 hp w)(e:ak C ω w w0.heap.size env a.tmps){op}{t:TypeId}{x}(ho:o.op=.unOp op t x)(hc:cV P h md r dst (.unOp op t x)=I cP)(hs:qf p xc h0 al env hp cP=I res):yj P C C0 w0 a d env o w res:=by
 simp only[cV]at hc
 obtain⟨y,hy,rfl⟩:=En.1 hc
 simp only[qf,qo]at hs
 split at hs
 ·rename_i v hv
  obtain⟨u,hu,rfl⟩:=vz hs
  exact ji m e (jyn e.cq ho hy hv hu)
 ·cases hs
theorem jmu (m:ax P C ω w0 C0 hp w)(e:ak C ω w w0.heap.size env a.tmps){s t:TypeId}{x}(ho:o.op=.convert s t x)(hc:cV P h md r dst (.convert s t x)=I cP)(hs:qf p xc h0 al env hp cP=I res):yj P C C0 w0 a d env o w res:=by
 simp only[cV]at hc
 split at hc
 ·rename_i k0 k u1 u2
  obtain⟨y,hy,rfl⟩:=En.1 hc
  simp only[qf,qo]at hs
  split at hs
  ·rename_i k1 n hv
   obtain rfl:=qy hs
   exact ji m e (jie e.cq ho u1 u2 hy hv)
  ·cases hs
 ·rename_i u1 u2
  obtain⟨y,hy,rfl⟩:=En.1 hc
  simp only[qf,qo]at hs
  split at hs
  ·rename_i l hv
   obtain rfl:=qy hs
   exact ji m e (q7k e.cq ho u1 u2 hy hv ⟨_,rfl⟩)
  ·rename_i k1 n hv
   obtain rfl:=qy hs
   exact ji m e (q3g e.cq ho u1 u2 hy hv)
  ·cases hs
 ·rename_i k0 u1 u2
  obtain⟨y,hy,rfl⟩:=En.1 hc
  simp only[qf,qo]at hs
  split at hs
  ·rename_i l hv
   obtain rfl:=qy hs
   exact ji m e (q62 e.cq ho u1 u2 hy hv ⟨_,rfl⟩)
  ·rename_i k1 n hv
   obtain rfl:=qy hs
   exact ji m e (q7r e.cq ho u1 u2 hy hv)
  ·cases hs
 ·cases hc
theorem q89 {ag n y}(hs:qo env hp (.fH ag n y)=I res):ym h0 al env hp (.load ag n y)=I res:=by
 simp only[qo]at hs
 simp only[ym]
 split at hs
 ·rename_i v hv
  rw[hv];exact hs
 ·cases hs
theorem q0i {g}:∀ {l:List (String×List Int)} {cs:List Int},Gh P g l=I cs→∃n,(n,cs)∈l∧P.globalNamed n=I g
 | [],_,h=>by simp[Gh]at h
 |(n,ds)::l,cs,h=>by
  simp only[Gh]at h
  split at h
  ·rename_i hn
   cases h
   exact⟨n,X4 ..,by simpa using hn⟩
  ·obtain⟨n',h1,h2⟩:=q0i h
   exact⟨n',Xn _ h1,h2⟩
theorem jg3 {ns:List Int}:aV C (ns.map (AVal.int .i64)) (ns.map (Value.int .i64)):=by
 induction ns with
 |nil=>exact .nil
 |cons n ns ih=>exact .cons _ _ _ _ (.int _ _) ih
theorem jeg (m:ax P C ω w0 C0 hp w)(e:ak C ω w w0.heap.size env a.tmps){t:TypeId}{g}(ho:o.op=.load t (.global g))(hc:cV P h md r dst (.load t (.global g))=I cP)(hs:qf p xc h0 al env hp cP=I res):yj P C C0 w0 a d env o w res:=by
 have hc:LR P t g=I cP:=hc
 unfold LR at hc
 split at hc
 ·rename_i cs n hf hg hn
  split at hc
  ·rename_i hl
   cases hc
   have hl:cs.length=n:=by simpa using hl
   simp only[qf,qo,qi]at hs
   obtain⟨u,hu,rfl⟩:=vz hs
   cases hu
   obtain⟨nm,cR,Bx⟩:=q0i hf
   have ht:=(m.tabs g (.inr (.inr ⟨_,cR,Bx⟩))).2.2.2 _ cR Bx
   have ej:∀j v,(cs.map (Value.int .i64))[j]?=I v→w.cell? ⟨g,0+j,Ey⟩=I v:=by
    intro j v hj
    rw[Ih,En]at hj
    obtain⟨i,hi,rfl⟩:=hj
    rw[Yh]
    exact ht j i hi
   have G1:=GG (P:=P) (w:=w) hg hn (vs:=cs.map (Value.int .i64)) (by simpa using hl) ej
   refine ji m e ⟨.agg ⟨cs.map (Value.int .i64)⟩,?_,.agg _ _ jg3⟩
   have hO:a.eval (.global g)=.pointer (I ⟨g,0,Ey⟩):=rfl
   simp[execOp,ho,Instr.loadAt,hO,Instr.sureAddr,G1]
  ·cases hc
 ·cases hc
theorem jiv (m:ax P C ω w0 C0 hp w)(e:ak C ω w w0.heap.size env a.tmps){t:TypeId}{x}(ho:o.op=.load t x)(hc:cV P h md r dst (.load t x)=I cP)(hs:qf p xc h0 al env hp cP=I res):yj P C C0 w0 a d env o w res:=by
 have key:∀ {ag:Bool} {n:Nat} {y:jx},yr P t=I ag→js P t=I n→(ag=Gn→n=1)→qu x=I y→ym h0 al env hp (.load ag n y)=I res→yj P C C0 w0 a d env o w res:=by
  intro ag n y hg hn GI hy hs
  simp only[ym]at hs
  split at hs
  ·rename_i b q hv
   cases hk:zd h0 al b with
   |false=>simp[hk]at hs
   |true=>
    simp only[hk,cond_true]at hs
    split at hs
    ·rename_i cs hcs
     split at hs
     ·rename_i us hH
      cases ag with
      |true=>
       simp only[cond_true]at hs
       obtain rfl:=qy hs
       exact ji m e (Vc m e.cq ho hg hn GI hy hv (.inl ⟨b,q,cs,us,rfl,hcs,hH,.inl ⟨rfl,rfl⟩⟩))
      |false=>
       simp only[cond_false]at hs
       split at hs
       ·obtain rfl:=qy hs
        exact ji m e (Vc m e.cq ho hg hn GI hy hv (.inl ⟨b,q,cs,_,rfl,hcs,hH,.inr ⟨rfl,rfl⟩⟩))
       ·cases hs
     ·cases hs
    ·cases hs
  ·rename_i z hv
   cases hk:(Bool.xor ag z.isAgg||!(Hm z.flat.length n))with
   |true=>simp[hk]at hs
   |false=>
    simp only[hk,cond_false]at hs
    obtain rfl:=qy hs
    simp only[Bool.or_eq_false_iff,Bool.not_eq_false']at hk
    exact ji m e (Vc m e.cq ho hg hn GI hy hv (.inr ⟨rfl,hk.1,Gs hk.2⟩))
  ·rename_i b bG q hv
   cases hk:vh h0 al b with
   |false=>simp[hk]at hs
   |true=>
    simp only[hk,cond_true]at hs
    split at hs
    ·rename_i sz dK xs gP
     cases dz:(Hm bG dK&&Xo (q+n) (xs.flatMap AVal.flat).length)with
     |false=>rw[dz]at hs;cases hs
     |true=>
      rw[dz]at hs
      simp only[cond_true]at hs
      simp only[Hj]at dz
      obtain rfl:=Gs dz.1
      have hl:=J2 dz.2
      cases ag with
      |true=>
       simp only[cond_true]at hs
       obtain rfl:=qy hs
       exact ji m e (qz9 m e.cq ho hg hn hy hv gP hl (.inl ⟨rfl,rfl⟩))
      |false=>
       simp only[cond_false]at hs
       split at hs
       ·rename_i z hz
        obtain rfl:=qy hs
        exact ji m e (qz9 m e.cq ho hg hn hy hv gP hl (.inr ⟨rfl,hz⟩))
       ·cases hs
    ·cases hs
  ·cases hs
 by_cases hx:∃g,x=.global g
 ·obtain⟨g,rfl⟩:=hx
  exact jeg m e ho hc hs
 have hc:(match yr P t,js P t,qu x with
  |some Gn,I 1,I x=>if(dst.map (h.takes.contains ·)).getD Gn then I (cU.cE ((dst.bind fun d=>h.bT.find? fun y=>y.1 == d).map (·.2)) x)else I (bif (dst.map (h.vl.contains ·)).getD Gn then .fH Gn 1 x else .load Gn 1 x)
  |some Gp,I n,I x=>I (bif (dst.map (h.vl.contains ·)).getD Gn then .fH Gp n x else .load Gp n x)
  |_,_,_=>Ey)=I cP:=by
  cases x with
  |global g=>exact absurd ⟨g,rfl⟩ hx
  |_=>exact hc
 split at hc
 ·rename_i y hg hn hy
  split at hc
  ·cases hc
   simp only[qf,qp]at hs
   split at hs
   ·rename_i b q hv
    generalize (zd h0 al b&&vi _ q)=kk at hs
    cases kk with
    |false=>simp at hs
    |true=>
     simp only[cond_true]at hs
     split at hs
     ·rename_i cs hcs
      split at hs
      ·rename_i v ow hq
       split at hs
       ·rename_i h' bw
        cases hs
        exact .inl (q4u m e ho hg hy hv hcs hq bw)
       ·cases hs
      ·cases hs
     ·cases hs
   ·cases hs
  ·cases hc
   generalize (dst.map (h.vl.contains ·)).getD Gn=bb at hs
   cases bb with
   |false=>exact key hg hn (fun _=>rfl) hy hs
   |true=>exact key hg hn (fun _=>rfl) hy (q89 hs)
 ·rename_i n y hg hn hy
  cases hc
  generalize (dst.map (h.vl.contains ·)).getD Gn=bb at hs
  cases bb with
  |false=>exact key hg hn (by simp) hy hs
  |true=>exact key hg hn (by simp) hy (q89 hs)
 ·cases hc
theorem jfb (m:ax P C ω w0 C0 hp w)(e:ak C ω w w0.heap.size env a.tmps){t:TypeId}{x y}(ho:o.op=.store t x y)(nF:cP.iq=Ey)(hc:cV P h md r dst (.store t x y)=I cP)(hs:qf p xc h0 al env hp cP=I res):yj P C C0 w0 a d env o w res:=by
 simp only[cV]at hc
 split at hc
 ·rename_i n x' y' hn h1 h2
  cases lT:LS h x' with
  |some s=>rw[lT]at hc;simp only[I.injEq]at hc;subst hc;simp[cU.iq]at nF
  |none=>
  rw[lT]at hc
  simp only[I.injEq]at hc
  subst hc
  simp only[qf,qp]at hs
  split at hs
  ·rename_i b q v e1 e2
   cases hk:zd h0 al b with
   |false=>simp[hk]at hs
   |true=>
    simp only[hk,cond_true]at hs
    split at hs
    ·rename_i cs hcs
     split at hs
     ·rename_i s c5
      cases hb:(Hm n 1&&v.cS&&Zk q cs.length)with
      |false=>simp[hb]at hs
      |true=>
       simp only[hb,cond_true]at hs
       simp only[Hj]at hb
       obtain⟨⟨kC,lU⟩,G2⟩:=hb
       obtain rfl:=Gs kC
       split at hs
       ·rename_i h' bw
        cases hs
        exact .inr (.inl (q60 m e ho hn h1 h2 e1 e2 hcs lU (Y8.mp G2) c5 bw))
       ·cases hs
     ·cases hb:Hm v.flat.length n with
      |false=>simp[hb]at hs
      |true=>
       simp only[hb,cond_true]at hs
       split at hs
       ·rename_i eK ct
        split at hs
        ·rename_i h' bw
         obtain rfl:=qy hs
         exact .inr (.inl (jfv m e ho hn h1 h2 e1 e2 hcs (Gs hb) ct bw))
        ·cases hs
       ·cases hs
    ·cases hs
  ·cases hs
 ·cases hc
theorem jg7 {P}{t:TypeId}{e:TypeId}(h:UG P t=I e):∃sz,yw P t=I [.b4,.list Gp sz []]:=by
 unfold UG at h
 split at h
 ·split at h
  ·split at h
   ·split at h
    ·rename_i sz h1 h2
     exact⟨_,h2⟩
    ·cases h
   ·cases h
  ·cases h
 ·cases h
theorem jfd (m:ax P C ω w0 C0 hp w)(e:ak C ω w w0.heap.size env a.tmps){t:TypeId}(ho:o.op=.alloc t)(hc:cV P h md r dst (.alloc t)=I cP)(hs:qf p xc h0 al env hp cP=I res):yj P C C0 w0 a d env o w res:=by
 simp only[cV]at hc
 split at hc
 ·rename_i e' he
  cases hc
  obtain⟨sz,hz⟩:=jg7 he
  simp only[qf,qp]at hs
  split at hs
  ·rename_i h' hn
   obtain rfl:=qy hs
   exact .inl (jpu m e ho hz hn)
  ·cases hs
 generalize (dst.map (h.vl.contains ·)).getD Gn=bb at hc
 cases bb with
 |true=>
  simp only[cond_true]at hc
  split at hc
  ·rename_i z hz
   cases hb:z.all qk with
   |false=>rw[hb]at hc;cases hc
   |true=>
    rw[hb]at hc
    simp only[cond_true,I.injEq]at hc
    subst hc
    simp only[qf,qo,I.injEq]at hs
    subst hs
    exact .inl (jc9 m e ho hz)
  ·cases hc
 |false=>
 simp only[cond_false]at hc
 obtain⟨z,hz,rfl⟩:=En.1 hc
 simp only[qf,qp]at hs
 cases hb:z.all qk with
 |false=>simp[hb]at hs
 |true=>
  simp only[hb,cond_true]at hs
  split at hs
  ·rename_i h' hn
   obtain rfl:=qy hs
   exact .inl (jey m e ho hz (by simpa using hb) hn)
  ·cases hs
theorem jqu (m:ax P C ω w0 C0 hp w)(e:ak C ω w w0.heap.size env a.tmps){t:TypeId}{x}(ho:o.op=.box t x)(hc:cV P h md r dst (.box t x)=I cP)(hs:qf p xc h0 al env hp cP=I res):yj P C C0 w0 a d env o w res:=by
 simp only[cV]at hc
 split at hc
 ·rename_i n x' hn h1
  cases hc
  generalize (dst.map (h.vl.contains ·)).getD Gn=bb at hs
  cases bb with
  |true=>
   simp only[cond_true,qf,qo]at hs
   split at hs
   ·rename_i v hv
    cases hb:(Hm v.flat.length n&&v.flat.all qk)with
    |false=>simp[hb]at hs
    |true=>
     simp only[hb,cond_true]at hs
     simp only[Hj]at hb
     obtain rfl:=qy hs
     exact .inl (jir m e ho h1 hv hb.2)
   ·cases hs
  |false=>
   simp only[cond_false]at hs
   simp only[qf,qp]at hs
   split at hs
   ·rename_i v hv
    cases hb:(Hm v.flat.length n&&v.flat.all qk)with
    |false=>simp[hb]at hs
    |true=>
     simp only[hb,cond_true]at hs
     simp only[Hj]at hb
     split at hs
     ·rename_i h' jE
      obtain rfl:=qy hs
      exact .inl (jqe m e ho h1 hv hb.2 jE)
     ·cases hs
   ·cases hs
 ·cases hc
theorem q7v (m:ax P C ω w0 C0 hp w)(e:ak C ω w w0.heap.size env a.tmps){i x}(ho:o.op=.extract x i)(hc:cV P h md r dst (.extract x i)=I cP)(hs:qf p xc h0 al env hp cP=I res):yj P C C0 w0 a d env o w res:=by
 simp only[cV]at hc
 obtain⟨y,hy,rfl⟩:=En.1 hc
 simp only[qf,qo]at hs
 split at hs
 ·rename_i vs hv
  obtain⟨u,hu,rfl⟩:=vz hs
  exact ji m e (q7l e.cq ho hy hv hu)
 ·cases hs
theorem q5k (m:ax P C ω w0 C0 hp w)(e:ak C ω w w0.heap.size env a.tmps){f xs ys}(ho:o.op=.makeFunc f xs ys)(hc:cV P h md r dst (.makeFunc f xs ys)=I cP)(hs:qf p xc h0 al env hp cP=I res):yj P C C0 w0 a d env o w res:=by
 simp only[cV]at hc
 split at hc
 ·split at hc
  ·rename_i k gd oq h1 h2
   cases hc
   simp only[qf,qo]at hs
   split at hs
   ·rename_i us vs e1 e2
    obtain rfl:=qy hs
    exact ji m e (jcg e.cq ho h1 h2 e1 e2)
   ·cases hs
  ·cases hc
 ·cases hc
theorem q7x (m:ax P C ω w0 C0 hp w)(e:ak C ω w w0.heap.size env a.tmps){t:TypeId}{x}(ho:o.op=.makeMap t x)(hc:cV P h md r dst (.makeMap t x)=I cP)(hs:qf p xc h0 al env hp cP=I res):yj P C C0 w0 a d env o w res:=by
 cases x with
 |some x=>simp[cV]at hc
 |none=>
  simp only[cV]at hc
  split at hc
  ·cases hc
   simp only[qf,qp]at hs
   split at hs
   ·rename_i h' hn
    obtain rfl:=qy hs
    exact .inl (jfs m e ho hn)
   ·cases hs
  ·cases hc
theorem jfx (m:ax P C ω w0 C0 hp w)(e:ak C ω w w0.heap.size env a.tmps){t:TypeId}{x}(ho:o.op=.range t x)(hc:cV P h md r dst (.range t x)=I cP)(hs:qf p xc h0 al env hp cP=I res):yj P C C0 w0 a d env o w res:=by
 simp only[cV]at hc
 split at hc
 ·rename_i ht
  obtain⟨y,hy,rfl⟩:=En.1 hc
  simp only[qf,qp]at hs
  split at hs
  ·rename_i s hv
   split at hs
   ·rename_i h' hn
    obtain rfl:=qy hs
    exact .inl (jbk m e ho ht hy hv hn)
   ·cases hs
  ·cases hs
 ·cases hc
theorem jl9 (m:ax P C ω w0 C0 hp w)(e:ak C ω w w0.heap.size env a.tmps){x b}(ho:o.op=.next x b)(hc:cV P h md r dst (.next x b)=I cP)(hs:qf p xc h0 al env hp cP=I res):yj P C C0 w0 a d env o w res:=by
 cases b with
 |false=>simp[cV]at hc
 |true=>
  simp only[cV]at hc
  obtain⟨y,hy,rfl⟩:=En.1 hc
  simp only[qf,qp]at hs
  split at hs
  ·rename_i b hv
   cases hk:zd h0 al b with
   |false=>simp[hk]at hs
   |true=>
    simp only[hk,cond_true]at hs
    split at hs
    ·rename_i s pos hb
     obtain⟨k1,k2⟩:=jfh (d:=d) m e ho hy hv hb
     cases hp:Zk pos s.length with
     |true=>
      simp only[hp,cond_true]at hs
      split at hs
      ·rename_i h' bw
       obtain rfl:=qy hs
       exact .inl (k1 (Y8.mp hp) h' bw)
      ·cases hs
     |false=>
      simp only[hp,cond_false]at hs
      obtain rfl:=qy hs
      exact .inl (k2 (fun h=>by rw[Y8.mpr h]at hp;cases hp))
    ·cases hs
  ·cases hs
theorem jcw (m:ax P C ω w0 C0 hp w)(e:ak C ω w w0.heap.size env a.tmps){t:TypeId}{x y ok}(ho:o.op=.lookup t x y ok)(hc:cV P h md r dst (.lookup t x y ok)=I cP)(hs:qf p xc h0 al env hp cP=I res):yj P C C0 w0 a d env o w res:=by
 simp only[cV]at hc
 split at hc
 ·rename_i kt el ht
  split at hc
  ·rename_i kd z x' y' iK hz h1 h2
   cases hc
   simp only[qf,ym]at hs
   split at hs
   ·rename_i b kv e1 e2
    cases hk:zd h0 al b with
    |false=>simp[hk]at hs
    |true=>
     simp only[hk,cond_true]at hs
     split at hs
     ·rename_i es hb
      split at hs
      ·rename_i i v hf
       obtain rfl:=qy hs
       exact ji m e (Vt m e ho ht iK hz h1 h2 e1 e2 (.inr ⟨b,es,rfl,hb,hf⟩))
      ·rename_i hf
       obtain rfl:=qy hs
       exact ji m e (Vt m e ho ht iK hz h1 h2 e1 e2 (.inr ⟨b,es,rfl,hb,hf⟩))
      ·cases hs
     ·cases hs
   ·rename_i kv e1 e2
    obtain rfl:=qy hs
    exact ji m e (Vt m e ho ht iK hz h1 h2 e1 e2 (.inl ⟨rfl,rfl⟩))
   ·cases hs
  ·cases hc
 ·cases hc
theorem qo4 (m:ax P C ω w0 C0 hp w)(e:ak C ω w w0.heap.size env a.tmps){t:TypeId}{x y z}(ho:o.op=.mapUpdate t x y z∨o.op=.insert t x y z)(hc:cV P h md r dst (.mapUpdate t x y z)=I cP)(hs:qf p xc h0 al env hp cP=I res):yj P C C0 w0 a d env o w res:=by
 simp only[cV]at hc
 split at hc
 ·rename_i kt el ht
  split at hc
  ·rename_i kd x' y' z' iK h1 h2 h3
   cases hc
   simp only[qf,qp]at hs
   split at hs
   ·rename_i b kv v e1 e2 e3
    cases hk:zd h0 al b with
    |false=>simp[hk]at hs
    |true=>
     simp only[hk,cond_true]at hs
     split at hs
     ·rename_i es hb
      split at hs
      ·rename_i i u hf
       split at hs
       ·rename_i h' bw
        obtain rfl:=qy hs
        exact .inr (.inl (qox m e ho ht iK h1 h2 h3 e1 e2 e3 hb (.inl ⟨i,u,hf,bw⟩)))
       ·cases hs
      ·rename_i hf
       cases hl:Xo es.length 1073741824 with
       |false=>simp[hl]at hs
       |true=>
        simp only[hl,cond_true]at hs
        split at hs
        ·rename_i h' bw
         obtain rfl:=qy hs
         exact .inr (.inl (qox m e ho ht iK h1 h2 h3 e1 e2 e3 hb (.inr ⟨hf,bw⟩)))
        ·cases hs
      ·cases hs
     ·cases hs
   ·cases hs
  ·cases hc
 ·cases hc
end
section
variable {P:Program}{p:zb}{xc:XC}{C C0:aH}{ω:Nat→Option Loc}{w w0:World}{hp:qh}{env:Env}{a:Act}{o:Oper}{d:Loc}{h:qj}{md:ew}{r h0:Nat}{dst:Option Nat}{al:Option (List Nat)}{cP:cU}{res:bj}
theorem vA (w:World){d}{t:TypeId}{x y b}{u:TypeDesc}(h:(∃e,u=.slice e∧y=.slice Ey 0 0∧∃q l c,x=.slice q l c∧b=q.isNone)∨(∃e,u=.pointer e∧y=.pointer Ey∧∃q,x=.pointer q∧b=q.isNone) ∨
  (∃k e,u=.map k e∧y=.map Ey∧∃q,x=.map q∧b=q.isNone)∨(∃k e v,u=.func k e v∧y=.nilFunc∧((x=.nilFunc∧b=Gp)∨∃f i j,x=.func f i j∧b=Gn))) (ht:P.underlying t=I u):
  (Op.equalIn (d+1) t x y).run P w=.ok b w:=by
 rcases h with⟨e,rfl,rfl,q,l,c,rfl,rfl⟩|⟨e,rfl,rfl,q,rfl,rfl⟩|⟨k,e,rfl,rfl,q,rfl,rfl⟩|⟨k,e,v,rfl,rfl,⟨rfl,rfl⟩|⟨f,i,j,rfl,rfl⟩⟩
 ·cases q<;>simp[Op.equalIn,run_underlying ht]
 ·cases q<;>simp[Op.equalIn,run_underlying ht]
 ·cases q<;>simp[Op.equalIn,run_underlying ht]
 ·simp[Op.equalIn,run_underlying ht]
 ·simp[Op.equalIn,run_underlying ht]
theorem vB (m:ax P C ω w0 C0 hp w)(e:ak C ω w w0.heap.size env a.tmps){op}{t u:TypeId}{x y neq b c}(ho:o.op=.binOp op t x y u)(hop:op=if neq then .neq else .eql)(hy:a.eval y=c)
  (bB:(∀k n,a.eval x≠.int k n)∧(∀s,a.eval x≠.string s)∧(∀k n,a.eval x≠.float k n)∧(∀k n m,a.eval x≠.complex k n m)) (dr:∀cs,a.eval x≠.agg cs) (U2:a.eval x≠.nilIface)
  (hq:(Op.equal t (a.eval x) c).run P w=.ok b w) {z} (hz:z=bif neq then !b else b):yj P C C0 w0 a d env o w ⟨.bool z,Gn,Ey,hp⟩:=by
 subst hz
 exact ji m e (jgv ho hop hy bB dr U2 hq)
theorem Mg (m:ax P C ω w0 C0 hp w)(e:ak C ω w w0.heap.size env a.tmps){op}{t u:TypeId}{x y y' neq k c}(ho:o.op=.binOp op t x y u)(hop:op=if neq then .neq else .eql)(hx:qu x=I y')(hy:y=.const c)
  (hk:(k=0∧(∃el,P.underlying t=I (.slice el))∧c=.slice Ey 0 0)∨(k=1∧(∃el,P.underlying t=I (.pointer el))∧c=.pointer Ey)∨(k=2∧(∃k v,P.underlying t=I (.map k v))∧c=.map Ey)∨(k=3∧(∃a b c,P.underlying t=I (.func a b c))∧c=.nilFunc))
  (hs:qf p xc h0 al env hp (.fI k neq y')=I res):yj P C C0 w0 a d env o w res:=by
 have pL:a.eval y=c:=by subst hy;simp[Act.eval]
 rcases hk with⟨rfl,⟨el,ht⟩,rfl⟩|⟨rfl,⟨el,ht⟩,rfl⟩|⟨rfl,⟨k,el,ht⟩,rfl⟩|⟨rfl,⟨k,el,q,ht⟩,rfl⟩
 ·simp only[qf,qo]at hs
  split at hs<;>first|(exfalso;omega)|skip
  ·rename_i n sz xs _ hv
   obtain rfl:=qy hs
   rcases(qw e.cq hx hv).de with⟨rfl,rfl,h1⟩|⟨h1,r,q,cap,h2,_⟩|⟨h1,_,ad,_,h2⟩
   ·exact vB m e ho hop pL (by simp[h1]) (by simp[h1]) (by simp[h1]) (b:=true) (by rw[h1];exact vA w (d:=9999) (by simp) ht) (by cases neq<;>rfl)
   all_goals
    subst h1
    exact vB m e ho hop pL (by simp[h2]) (by simp[h2]) (by simp[h2]) (b:=false) (by rw[h2];exact vA w (d:=9999) (by simp) ht) (by cases neq<;>rfl)
  ·rename_i b q n _ hv
   obtain rfl:=qy hs
   have hr:=qw e.cq hx hv
   generalize h2:a.eval x=ev at hr
   cases hr with
   |ms b o len r cap hb hl=>
    exact vB m e ho hop pL (by simp[h2]) (by simp[h2]) (by simp[h2]) (b:=false) (by rw[h2];exact vA w (d:=9999) (by simp) ht) (by cases neq<;>rfl)
  ·cases hs
 ·simp only[qf,qo]at hs
  split at hs<;>first|(exfalso;omega)|skip
  ·rename_i _ hv
   obtain rfl:=qy hs
   have hr:=qw e.cq hx hv
   generalize h2:a.eval x=ev at hr
   cases hr
   exact vB m e ho hop pL (by simp[h2]) (by simp[h2]) (by simp[h2]) (b:=true) (by rw[h2];exact vA w (d:=9999) (by simp) ht) (by cases neq<;>rfl)
  ·rename_i _ hv
   obtain rfl:=qy hs
   obtain⟨r,hr,h2⟩:=(qw e.cq hx hv).dy
   exact vB m e ho hop pL (by simp[h2]) (by simp[h2]) (by simp[h2]) (b:=false) (by rw[h2];exact vA w (d:=9999) (by simp) ht) (by cases neq<;>rfl)
  ·rename_i _ hv
   obtain rfl:=qy hs
   obtain⟨r,q,h2,_⟩:=(qw e.cq hx hv).fc
   exact vB m e ho hop pL (by simp[h2]) (by simp[h2]) (by simp[h2]) (b:=false) (by rw[h2];exact vA w (d:=9999) (by simp) ht) (by cases neq<;>rfl)
  ·cases hs
 ·simp only[qf,qo]at hs
  split at hs<;>first|(exfalso;omega)|skip
  ·rename_i _ hv
   obtain rfl:=qy hs
   have hr:=qw e.cq hx hv
   generalize h2:a.eval x=ev at hr
   cases hr
   exact vB m e ho hop pL (by simp[h2]) (by simp[h2]) (by simp[h2]) (b:=true) (by rw[h2];exact vA w (d:=9999) (by simp) ht) (by cases neq<;>rfl)
  ·rename_i _ hv
   obtain rfl:=qy hs
   have hr:=qw e.cq hx hv
   generalize h2:a.eval x=ev at hr
   cases hr
   exact vB m e ho hop pL (by simp[h2]) (by simp[h2]) (by simp[h2]) (b:=false) (by rw[h2];exact vA w (d:=9999) (by simp) ht) (by cases neq<;>rfl)
  ·cases hs
 ·simp only[qf,qo]at hs
  split at hs<;>first|(exfalso;omega)|skip
  ·rename_i _ hv
   obtain rfl:=qy hs
   have hr:=qw e.cq hx hv
   generalize h2:a.eval x=ev at hr
   cases hr
   exact vB m e ho hop pL (by simp[h2]) (by simp[h2]) (by simp[h2]) (b:=true) (by rw[h2];exact vA w (d:=9999) (by simp) ht) (by cases neq<;>rfl)
  ·rename_i _ hv
   obtain rfl:=qy hs
   have hr:=qw e.cq hx hv
   generalize h2:a.eval x=ev at hr
   cases hr
   exact vB m e ho hop pL (by simp[h2]) (by simp[h2]) (by simp[h2]) (b:=false) (by rw[h2];exact vA w (d:=9999) (by simp) ht) (by cases neq<;>rfl)
  ·cases hs
theorem Vw (m:ax P C ω w0 C0 hp w)(e:ak C ω w w0.heap.size env a.tmps){op}{t u:TypeId}{x y x' y'}(ho:o.op=.binOp op t x y u)(h1:qu x=I x')(h2:qu y=I y')(hs:qf p xc h0 al env hp (.bin op x' y')=I res):yj P C C0 w0 a d env o w res:=by
 simp only[qf,qo]at hs
 split at hs
 ·rename_i u v e1 e2
  obtain⟨z,hz,rfl⟩:=vz hs
  exact ji m e (jqn e.cq ho h1 h2 e1 e2 hz)
 ·cases hs
theorem qv4 (m:ax P C ω w0 C0 hp w)(e:ak C ω w w0.heap.size env a.tmps){op}{t u:TypeId}{x y neq}(ho:o.op=.binOp op t x y u)(hop:op=if neq then .neq else .eql)(hc:Eu P op neq t x y=I cP)(hs:qf p xc h0 al env hp cP=I res):yj P C C0 w0 a d env o w res:=by
 have dU:Eu P op neq t x y=I cP:=hc
 unfold Eu at dU
 have eqs:∀ {ks:List Kd} {x' y':jx},yr P t=I Gp→P.eqGuardType P.depth t=Gn→vk P LQ t=I ks→qu x=I x'→qu y=I y'→qf p xc h0 al env hp (.eqs ks neq x' y')=I res→yj P C C0 w0 a d env o w res:=by
  intro ks x' y' dr hg hk h1 h2 hs
  simp only[qf,qo]at hs
  split at hs
  ·rename_i u v e1 e2
   cases hb:(Hm u.length ks.length&&Hm v.length ks.length)with
   |false=>simp[hb]at hs
   |true=>
    simp only[hb,cond_true]at hs
    simp only[Hj]at hb
    split at hs
    ·rename_i b hq
     obtain rfl:=qy hs
     exact ji m e (jrp e.cq ho hop h1 h2 e1 e2 hg hk dr (Gs hb.1) (Gs hb.2) hq)
    ·cases hs
  ·cases hs
 split at dU
 ·split at dU
  ·rename_i h1 h2;cases dU;exact Vw m e ho h1 h2 hs
  ·cases dU
 ·split at dU
  ·rename_i h1 h2;cases dU;exact Vw m e ho h1 h2 hs
  ·cases dU
 ·rename_i ht
  split at dU
  ·rename_i h1 h2
   cases dU
   simp only[qf,qo]at hs
   split at hs
   ·rename_i u v e1 e2
    obtain rfl:=qy hs
    exact ji m e (jri e.cq ho hop h1 h2 e1 e2 ht)
   ·cases hs
  ·cases dU
 ·rename_i fs ht
  split at dU
  ·rename_i hg
   split at dU
   ·rename_i ks x' y' hk h1 h2;cases dU;exact eqs (by simp[yr,ht]) (by simpa using hg) hk h1 h2 hs
   ·cases dU
  ·cases dU
 ·rename_i fs _ ht
  split at dU
  ·rename_i hg
   split at dU
   ·rename_i ks x' y' hk h1 h2;cases dU;exact eqs (by simp[yr,ht]) (by simpa using hg) hk h1 h2 hs
   ·cases dU
  ·cases dU
 ·rename_i el ht
  split at dU
  ·obtain⟨x',hx,rfl⟩:=En.1 dU
   exact Mg m e ho hop hx rfl (.inl ⟨rfl,⟨el,ht⟩,rfl⟩) hs
  ·cases dU
 ·rename_i el ht
  split at dU
  ·obtain⟨x',hx,rfl⟩:=En.1 dU
   exact Mg m e ho hop hx rfl (.inr (.inl ⟨rfl,⟨el,ht⟩,rfl⟩)) hs
  ·cases dU
 ·rename_i el _ ht
  split at dU
  ·obtain⟨x',hx,rfl⟩:=En.1 dU
   exact Mg m e ho hop hx rfl (.inr (.inr (.inl ⟨rfl,⟨_,_,ht⟩,rfl⟩))) hs
  ·cases dU
 ·rename_i el _ _ ht
  split at dU
  ·obtain⟨x',hx,rfl⟩:=En.1 dU
   exact Mg m e ho hop hx rfl (.inr (.inr (.inr ⟨rfl,⟨_,_,_,ht⟩,rfl⟩))) hs
  ·cases dU
 ·cases dU
theorem jqx (m:ax P C ω w0 C0 hp w)(e:ak C ω w w0.heap.size env a.tmps){op}{t u:TypeId}{x y}(ho:o.op=.binOp op t x y u)(hc:cV P h md r dst (.binOp op t x y u)=I cP)(hs:qf p xc h0 al env hp cP=I res):yj P C C0 w0 a d env o w res:=by
 simp only[cV]at hc
 unfold UI at hc
 split at hc
 ·exact qv4 (neq:=false) m e ho rfl hc hs
 ·exact qv4 (neq:=true) m e ho rfl hc hs
 ·split at hc
  ·rename_i h1 h2;cases hc;exact Vw m e ho h1 h2 hs
  ·cases hc
end
end Go.Abs
